/- Each plain function is what a call of its Go function does, checked by the kernel (no condition but what its checks ask). -/
import Derived.Test.YtneffefnlogkaaaGreatDoorSeat
import Derived.Test.YtneffefnlogkaaaGreatDoorText
set_option linter.unusedVariables false
set_option linter.unusedSimpArgs false
set_option maxRecDepth 4000
namespace Go.Proofs.Ab
open Go Go.Proofs
set_option maxRecDepth 100000
abbrev KT (R:Type):Type:=List SV->Y1 R
abbrev JT (R:Type):Type:=List Item->St->Y1 R
noncomputable def S0 {R:Type} (C:Cfg R) (F:Func) (n:Nat) (κ:KT R) (J:JT R) (i:Nat) (s:St):Y1 R:=start C J (rD C F.results.toList (List.range n) κ) 10000 (placeOf F i) s
noncomputable def G0 {R:Type} (C:Cfg R) (F:Func) (n:Nat) (κ:KT R) (f:Nat) (p:List Item) (s:St):Y1 R:=goto C (rD C F.results.toList (List.range n) κ) 10000 f p s
theorem aj {R:Type} {P:Program} {C:Cfg R} {fn:Func} {tab:cg} (hP:Ok P C.ty) (hD:∀ g,bT P C.ty tab g (C.call g)) {g:Nat} (hf:P.funcs[g]? = some fn) (hn:(fn.name == "runtime.NumGoroutine")=false) {xs:List SV} {κ:KT R} {X:Y1 R} (h:cA C fn 10000 ah xs κ=X):aa P C.ty tab g xs κ X:=by
 intro r e w vs Rt Ra bs hpre
 exact yJ hP hD hf hn (h.trans e) hpre
namespace b9
abbrev K0 {R:Type} (κ:KT R):Y3->Y1 R:=fun f=>κ [.bool f]
section
variable (R:Type)
def Γ (g:Nat) (xs:List SV) (κ:KT R):Y1 R:=
 match g with
 | _=>none
def h (n:Nat):Option (List (Nat × List (Nat × Nat))):=
 match n with
 | _=>none
def C:Cfg R:=⟨ag br,Γ R,fun _=>false,h,0,fun _=>false⟩
theorem k (κ:KT R) (k:Nat) (a0 a1:_):cA (C R) Tryz.f173 10000 k [.str a0,.str a1] κ=b9.e a0 a1 (K0 κ):=by kernel_rfl
end
theorem ae {R:Type} (tab:cg) (f:ay tab) (g:Nat):bT (R:=R) Tryz.prog (ag br) tab g ((C R).call g):=by
 refine aI fun xs κ => ?_
 show aa _ _ _ g xs κ (Γ R g xs κ)
 unfold Γ
 split
 ·exact aa.none
theorem aF {R:Type} (tab:cg) (f:ay tab) (a0 a1:_) (κ:KT R):aa Tryz.prog (ag br) tab 173 [.str a0,.str a1] κ (b9 a0 a1 (K0 κ)):=aj (C:=C R) (fn:=Tryz.f173) cE (ae tab f) (by kernel_rfl) (by kernel_rfl) (by rw [k];rfl)
end b9
namespace bc
abbrev K0 {R:Type} (κ:KT R):Y3->Y1 R:=fun f=>κ [.bool f]
section
variable (R:Type) (c1:b9.F R)
def Γ (g:Nat) (xs:List SV) (κ:KT R):Y1 R:=
 match g with
 | 173=>(match xs with
  | [.str a0,.str a1]=>c1 a0 a1 (b9.K0 κ)
  | _=>none)
 | _=>none
def h (n:Nat):Option (List (Nat × List (Nat × Nat))):=
 match n with
 | _=>none
def C:Cfg R:=⟨ag br,Γ R c1,fun _=>false,h,0,fun _=>false⟩
theorem k (κ:KT R) (k:Nat) (a0 a1:_):cA (C R c1) Tryz.f127 10000 k [.str a0,.str a1] κ=bc.e c1 a0 a1 (K0 κ):=by kernel_rfl
end
theorem ae {R:Type} (tab:cg) (f:ay tab) (g:Nat):bT (R:=R) Tryz.prog (ag br) tab g ((C R b9).call g):=by
 refine aI fun xs κ => ?_
 show aa _ _ _ g xs κ (Γ R b9 g xs κ)
 unfold Γ
 split
 ·split
  ·exact b9.aF tab f _ _ κ
  ·exact aa.none
 ·exact aa.none
theorem aF {R:Type} (tab:cg) (f:ay tab) (a0 a1:_) (κ:KT R):aa Tryz.prog (ag br) tab 127 [.str a0,.str a1] κ (bc a0 a1 (K0 κ)):=aj (C:=C R b9) (fn:=Tryz.f127) cE (ae tab f) (by kernel_rfl) (by kernel_rfl) (by rw [k];rfl)
end bc
theorem dk.aF {R:Type} (tab:cg) (j:ay tab) (a0:BA) (a1:Int) (κ:List SV->Y1 R):aa Tryz.prog (ag br) tab 192 [.str a0,.int .u8 a1] κ (dk a0 a1 (fun f=>κ [.int .i64 f])):=
 kg (show Tryz.prog.funcs[192]? = some Tryz.f192 by kernel_rfl) (by kernel_rfl) (by kernel_rfl) (by kernel_rfl) (by kernel_rfl) a0 a1 κ
namespace cx
abbrev K0 {R:Type} (κ:KT R):Int->Y1 R:=fun f=>κ [.int .i64 f]
section
variable (R:Type) (c1:dk.F R)
def Γ (g:Nat) (xs:List SV) (κ:KT R):Y1 R:=
 match g with
 | 192=>(match xs with
  | [.str a0,.int .u8 a1]=>c1 a0 a1 (fun f=>κ [.int .i64 f])
  | _=>none)
 | _=>none
def h (n:Nat):Option (List (Nat × List (Nat × Nat))):=
 match n with
 | _=>none
def C:Cfg R:=⟨ag br,Γ R c1,fun _=>false,h,0,fun _=>false⟩
theorem k (κ:KT R) (k:Nat) (a0 a1:_):cA (C R c1) Tryz.f164 10000 k [.str a0,.int .u8 a1] κ=cx.e c1 a0 a1 (K0 κ):=by kernel_rfl
end
theorem ae {R:Type} (tab:cg) (f:ay tab) (g:Nat):bT (R:=R) Tryz.prog (ag br) tab g ((C R dk).call g):=by
 refine aI fun xs κ => ?_
 show aa _ _ _ g xs κ (Γ R dk g xs κ)
 unfold Γ
 split
 ·split
  ·exact dk.aF tab f _ _ κ
  ·exact aa.none
 ·exact aa.none
theorem aF {R:Type} (tab:cg) (f:ay tab) (a0 a1:_) (κ:KT R):aa Tryz.prog (ag br) tab 164 [.str a0,.int .u8 a1] κ (cx a0 a1 (K0 κ)):=aj (C:=C R dk) (fn:=Tryz.f164) cE (ae tab f) (by kernel_rfl) (by kernel_rfl) (by rw [k];rfl)
end cx
theorem ef.one (c:Y2):∀ l:List Y2,Lib.index l [c]=Lib.indexByte l c
 | []=>rfl
 | b::l=>by
  rw [Lib.index,Lib.indexByte,ef.one c l]
  simp [List.isPrefixOf,Bool.beq_comm (a:=c)]
namespace ef
section
variable (R:Type) (c1:cx.F R)
def Γ (g:Nat) (xs:List SV) (κ:KT R):Y1 R:=
 match g with
 | 164=>(match xs with
  | [.str a0,.int .u8 a1]=>c1 a0 a1 (cx.K0 κ)
  | _=>none)
 | _=>none
def C:Cfg R:=⟨ag br,Γ R c1,fun _=>false,fun _=>none,0,fun _=>false⟩
theorem k (κ:KT R) (k:Nat) (a0:BA):cA (C R c1) Tryz.f174 10000 k [.str a0,.str ⟨#[46]⟩] κ=(bif decide ((⟨#[46]⟩:BA)=a0) then κ [.int .i64 0] else c1 a0 46 (fun r=>κ [.int .i64 r])):=by kernel_rfl
end
theorem ae {R:Type} (tab:cg) (f:ay tab) (g:Nat):bT (R:=R) Tryz.prog (ag br) tab g ((C R cx).call g):=by
 refine aI fun xs κ => ?_
 show aa _ _ _ g xs κ (Γ R cx g xs κ)
 unfold Γ
 split
 ·split
  ·exact cx.aF tab f _ _ κ
  ·exact aa.none
 ·exact aa.none
theorem Jw {R:Type} (tab:cg) (j:ay tab) (a0:BA) (h:¬ a0.size<4294967281) (κ:KT R):aa Tryz.prog (ag br) tab 174 [.str a0,.str ⟨#[46]⟩] κ (κ [.int .i64 (Lib.index a0.data.toList [46])]):=
 aj (C:=C R cx) (fn:=Tryz.f174) cE (ae tab j) (by kernel_rfl) (by kernel_rfl) (by
  have f:¬ (⟨#[46]⟩:BA)=a0:=fun e=>by subst e;exact h (by decide)
  rw [k,decide_eq_false f,cond_false,one];rfl)
end ef
theorem ef.aF {R:Type} (tab:cg) (f:ay tab) (a0 a1:BA) (κ:List SV->Y1 R):aa Tryz.prog (ag br) tab 174 [.str a0,.str a1] κ (ef a0 a1 (fun u=>κ [.int .i64 u])):=by
 refine Ci fun h => ?_
 by_cases j:a0.size<4294967281
 ·obtain ⟨m,cs,t,z,f,hm⟩:=f
  exact yQ Tryz.call174 a0 a1 (.int .i64 _) (fun w hw=>Any.stringslite_Index Tryz.E6 a0 a1 m w j (D3 hm (hw _ _ f))) (fun c=>z6) κ
 ·obtain rfl:a1=⟨#[46]⟩:=(of_decide_eq_true h).resolve_left j
  exact ef.Jw tab f a0 j κ
namespace aO
abbrev K0 {R:Type} (κ:KT R):Int->Y1 R:=fun f=>κ [.int .i64 f]
section
variable (R:Type) (c1:ef.F R)
def Γ (g:Nat) (xs:List SV) (κ:KT R):Y1 R:=
 match g with
 | 174=>(match xs with
  | [.str a0,.str a1]=>c1 a0 a1 (fun f=>κ [.int .i64 f])
  | _=>none)
 | _=>none
def h (n:Nat):Option (List (Nat × List (Nat × Nat))):=
 match n with
 | _=>none
def C:Cfg R:=⟨ag br,Γ R c1,fun _=>false,h,0,fun _=>false⟩
theorem k (κ:KT R) (k:Nat) (a0 a1:_):cA (C R c1) Tryz.f128 10000 k [.str a0,.str a1] κ=aO.e c1 a0 a1 (K0 κ):=by kernel_rfl
end
theorem ae {R:Type} (tab:cg) (f:ay tab) (g:Nat):bT (R:=R) Tryz.prog (ag br) tab g ((C R ef).call g):=by
 refine aI fun xs κ => ?_
 show aa _ _ _ g xs κ (Γ R ef g xs κ)
 unfold Γ
 split
 ·split
  ·exact ef.aF tab f _ _ κ
  ·exact aa.none
 ·exact aa.none
theorem aF {R:Type} (tab:cg) (f:ay tab) (a0 a1:_) (κ:KT R):aa Tryz.prog (ag br) tab 128 [.str a0,.str a1] κ (aO a0 a1 (K0 κ)):=aj (C:=C R ef) (fn:=Tryz.f128) cE (ae tab f) (by kernel_rfl) (by kernel_rfl) (by rw [k];rfl)
end aO
namespace dN
abbrev K0 {R:Type} (κ:KT R):BA->BA->Y1 R:=fun f j=>κ [.tup [.str f,.str j]]
section
variable (R:Type) (c1:bc.F R) (c2:aO.F R)
def Γ (g:Nat) (xs:List SV) (κ:KT R):Y1 R:=
 match g with
 | 127=>(match xs with
  | [.str a0,.str a1]=>c1 a0 a1 (bc.K0 κ)
  | _=>none)
 | 128=>(match xs with
  | [.str a0,.str a1]=>c2 a0 a1 (aO.K0 κ)
  | _=>none)
 | _=>none
def h (n:Nat):Option (List (Nat × List (Nat × Nat))):=
 match n with
 | _=>none
def C:Cfg R:=⟨ag br,Γ R c1 c2,fun _=>false,h,0,fun _=>false⟩
theorem k (κ:KT R) (k:Nat) (a0:_):cA (C R c1 c2) Tryz.f89 10000 k [.str a0] κ=dN.e c1 c2 a0 (K0 κ):=by kernel_rfl
end
theorem ae {R:Type} (tab:cg) (f:ay tab) (g:Nat):bT (R:=R) Tryz.prog (ag br) tab g ((C R bc aO).call g):=by
 refine aI fun xs κ => ?_
 show aa _ _ _ g xs κ (Γ R bc aO g xs κ)
 unfold Γ
 split
 ·split
  ·exact bc.aF tab f _ _ κ
  ·exact aa.none
 ·split
  ·exact aO.aF tab f _ _ κ
  ·exact aa.none
 ·exact aa.none
theorem aF {R:Type} (tab:cg) (f:ay tab) (a0:_) (κ:KT R):aa Tryz.prog (ag br) tab 89 [.str a0] κ (dN a0 (K0 κ)):=aj (C:=C R bc aO) (fn:=Tryz.f89) cE (ae tab f) (by kernel_rfl) (by kernel_rfl) (by rw [k];rfl)
end dN
namespace aY
abbrev K0 {R:Type} (κ:KT R):Y3->Y1 R:=fun f=>κ [.bool f]
section
variable (R:Type)
def Γ (g:Nat) (xs:List SV) (κ:KT R):Y1 R:=
 match g with
 | _=>none
def h (n:Nat):Option (List (Nat × List (Nat × Nat))):=
 match n with
 | _=>none
def C:Cfg R:=⟨ag br,Γ R,fun _=>false,h,0,fun _=>false⟩
theorem k (κ:KT R) (k:Nat) (a0:_):cA (C R) Tryz.f149 10000 k [.int .u8 a0] κ=aY.e a0 (K0 κ):=by kernel_rfl
end
theorem ae {R:Type} (tab:cg) (f:ay tab) (g:Nat):bT (R:=R) Tryz.prog (ag br) tab g ((C R).call g):=by
 refine aI fun xs κ => ?_
 show aa _ _ _ g xs κ (Γ R g xs κ)
 unfold Γ
 split
 ·exact aa.none
theorem aF {R:Type} (tab:cg) (f:ay tab) (a0:_) (κ:KT R):aa Tryz.prog (ag br) tab 149 [.int .u8 a0] κ (aY a0 (K0 κ)):=aj (C:=C R) (fn:=Tryz.f149) cE (ae tab f) (by kernel_rfl) (by kernel_rfl) (by rw [k];rfl)
end aY
namespace bZ
abbrev K0 {R:Type} (κ:KT R):BA->Y3->Y1 R:=fun f j=>κ [.tup [.str f,.bool j]]
section
variable (R:Type) (c1:aY.F R)
def Γ (g:Nat) (xs:List SV) (κ:KT R):Y1 R:=
 match g with
 | 149=>(match xs with
  | [.int .u8 a0]=>c1 a0 (aY.K0 κ)
  | _=>none)
 | _=>none
def h (n:Nat):Option (List (Nat × List (Nat × Nat))):=
 match n with
 | 2=>some [(0,[(0,0)]),(4,[(0,0)])]
 | 5=>some [(0,[(0,0)]),(4,[(0,0)]),(5,[(0,0)])]
 | _=>none
def C:Cfg R:=⟨ag br,Γ R c1,fun _=>false,h,0,fun _=>false⟩
noncomputable def S:=S0 (C R c1) Tryz.f150 0
noncomputable def G:=G0 (C R c1) Tryz.f150 0
def s2:=fun x0 f=>(⟨eA 60 [(0,.str x0),(4,.int .i64 f)],[],ez⟩:St)
def s5:=fun x0 f j=>(⟨eA 60 [(0,.str x0),(4,.int .i64 f),(5,.str j)],[],ez⟩:St)
noncomputable abbrev q2 {R:Type} (J:JT R):BA->Int->Y1 R:=fun x0 f=>J (placeOf Tryz.f150 2) (s2 x0 f)
noncomputable abbrev q5 {R:Type} (J:JT R):J5 R:=fun x0 f j=>J (placeOf Tryz.f150 5) (s5 x0 f j)
theorem k2 (J:JT R) (κ:KT R) (x0 f:_):S R c1 κ J 2 (s2 x0 f)=t2 (q2 J) (q5 J) x0 f:=by kernel_rfl
theorem k5 (J:JT R) (κ:KT R) (x0 f j:_):S R c1 κ J 5 (s5 x0 f j)=t5 c1 (q5 J) (K0 κ) x0 f j:=by kernel_rfl
theorem k (κ:KT R) (k:Nat) (a0:_):cA (C R c1) Tryz.f150 10000 k [.str a0] κ=bZ.e c1 a0 (q2 (G R c1 κ k)) (q5 (G R c1 κ k)) (K0 κ):=by kernel_rfl
theorem g5 (κ:KT R):∀ (f:Nat),q5 (G R c1 κ f)=L5 c1 (K0 κ) f
 | 0=>rfl
 | f+1=>by
  funext x0 j m
  show S R c1 κ (G R c1 κ f) 5 _=_
  rw [k5,g5 κ f]
  rfl
theorem g2 (κ:KT R):∀ (f:Nat),q2 (G R c1 κ f)=L2 c1 (K0 κ) f
 | 0=>rfl
 | f+1=>by
  funext x0 j
  show S R c1 κ (G R c1 κ f) 2 _=_
  rw [k2,g2 κ f,g5 R c1 κ f]
  rfl
end
theorem ae {R:Type} (tab:cg) (f:ay tab) (g:Nat):bT (R:=R) Tryz.prog (ag br) tab g ((C R aY).call g):=by
 refine aI fun xs κ => ?_
 show aa _ _ _ g xs κ (Γ R aY g xs κ)
 unfold Γ
 split
 ·split
  ·exact aY.aF tab f _ κ
  ·exact aa.none
 ·exact aa.none
theorem aF {R:Type} (tab:cg) (f:ay tab) (a0:_) (κ:KT R):aa Tryz.prog (ag br) tab 150 [.str a0] κ (bZ a0 (K0 κ)):=aj (C:=C R aY) (fn:=Tryz.f150) cE (ae tab f) (by kernel_rfl) (by kernel_rfl) (by rw [k];rw [g2 R aY κ ah,g5 R aY κ ah];rfl)
end bZ
namespace bA
abbrev K0 {R:Type} (κ:KT R):LA->Y1 R:=fun f=>κ [.fr 161 f true]
section
variable (R:Type) (c1:bc.F R) (c2:aO.F R) (c3:aY.F R) (c4:bZ.F R)
def Γ (g:Nat) (xs:List SV) (κ:KT R):Y1 R:=
 match g with
 | 127=>(match xs with
  | [.str a0,.str a1]=>c1 a0 a1 (bc.K0 κ)
  | _=>none)
 | 128=>(match xs with
  | [.str a0,.str a1]=>c2 a0 a1 (aO.K0 κ)
  | _=>none)
 | 149=>(match xs with
  | [.int .u8 a0]=>c3 a0 (aY.K0 κ)
  | _=>none)
 | 150=>(match xs with
  | [.str a0]=>c4 a0 (bZ.K0 κ)
  | _=>none)
 | _=>none
def h (n:Nat):Option (List (Nat × List (Nat × Nat))):=
 match n with
 | 3=>some [(0,[(0,0)]),(3,[(0,163)]),(4,[(0,0)]),(5,[(0,0)])]
 | _=>none
def C:Cfg R:=⟨ag br,Γ R c1 c2 c3 c4,fun _=>false,h,0,fun _=>false⟩
noncomputable def S:=S0 (C R c1 c2 c3 c4) Tryz.f110 0
noncomputable def G:=G0 (C R c1 c2 c3 c4) Tryz.f110 0
def s3:=fun x0 f j m=>(⟨eA 52 [(0,.str x0),(3,.own 256),(4,.bool f),(5,.str j)],[(256,.row 161 m true)],ez⟩:St)
noncomputable abbrev q3 {R:Type} (J:JT R):J3 R:=fun x0 f j m=>J (placeOf Tryz.f110 3) (s3 x0 f j m)
theorem k3 (J:JT R) (κ:KT R) (x0 f j m:_):S R c1 c2 c3 c4 κ J 3 (s3 x0 f j m)=t3 c1 c2 c3 c4 (q3 J) (K0 κ) x0 f j m:=by kernel_rfl
theorem k (κ:KT R) (k:Nat) (a0:_):cA (C R c1 c2 c3 c4) Tryz.f110 10000 k [.str a0] κ=bA.e c1 c2 c3 c4 a0 (q3 (G R c1 c2 c3 c4 κ k)) (K0 κ):=by kernel_rfl
theorem g3 (κ:KT R):∀ (f:Nat),q3 (G R c1 c2 c3 c4 κ f)=L3 c1 c2 c3 c4 (K0 κ) f
 | 0=>rfl
 | f+1=>by
  funext x0 j m u
  show S R c1 c2 c3 c4 κ (G R c1 c2 c3 c4 κ f) 3 _=_
  rw [k3,g3 κ f]
  rfl
end
theorem ae {R:Type} (tab:cg) (f:ay tab) (g:Nat):bT (R:=R) Tryz.prog (ag br) tab g ((C R bc aO aY bZ).call g):=by
 refine aI fun xs κ => ?_
 show aa _ _ _ g xs κ (Γ R bc aO aY bZ g xs κ)
 unfold Γ
 split
 ·split
  ·exact bc.aF tab f _ _ κ
  ·exact aa.none
 ·split
  ·exact aO.aF tab f _ _ κ
  ·exact aa.none
 ·split
  ·exact aY.aF tab f _ κ
  ·exact aa.none
 ·split
  ·exact bZ.aF tab f _ κ
  ·exact aa.none
 ·exact aa.none
theorem aF {R:Type} (tab:cg) (f:ay tab) (a0:_) (κ:KT R):aa Tryz.prog (ag br) tab 110 [.str a0] κ (bA a0 (K0 κ)):=aj (C:=C R bc aO aY bZ) (fn:=Tryz.f110) cE (ae tab f) (by kernel_rfl) (by kernel_rfl) (by rw [k];rw [g3 R bc aO aY bZ κ ah];rfl)
end bA
namespace bN
abbrev K0 {R:Type} (κ:KT R):Y3->Y1 R:=fun f=>κ [.bool f]
section
variable (R:Type)
def Γ (g:Nat) (xs:List SV) (κ:KT R):Y1 R:=
 match g with
 | _=>none
def h (n:Nat):Option (List (Nat × List (Nat × Nat))):=
 match n with
 | _=>none
def C:Cfg R:=⟨ag br,Γ R,fun _=>false,h,0,fun _=>false⟩
theorem k (κ:KT R) (k:Nat) (a0 a1:_):cA (C R) Tryz.f153 10000 k [.str a0,.str a1] κ=bN.e a0 a1 (K0 κ):=by kernel_rfl
end
theorem ae {R:Type} (tab:cg) (f:ay tab) (g:Nat):bT (R:=R) Tryz.prog (ag br) tab g ((C R).call g):=by
 refine aI fun xs κ => ?_
 show aa _ _ _ g xs κ (Γ R g xs κ)
 unfold Γ
 split
 ·exact aa.none
theorem aF {R:Type} (tab:cg) (f:ay tab) (a0 a1:_) (κ:KT R):aa Tryz.prog (ag br) tab 153 [.str a0,.str a1] κ (bN a0 a1 (K0 κ)):=aj (C:=C R) (fn:=Tryz.f153) cE (ae tab f) (by kernel_rfl) (by kernel_rfl) (by rw [k];rfl)
end bN
namespace cL
abbrev K0 {R:Type} (κ:KT R):BA->Y1 R:=fun f=>κ [.str f]
section
variable (R:Type) (c1:bN.F R)
def Γ (g:Nat) (xs:List SV) (κ:KT R):Y1 R:=
 match g with
 | 153=>(match xs with
  | [.str a0,.str a1]=>c1 a0 a1 (bN.K0 κ)
  | _=>none)
 | _=>none
def h (n:Nat):Option (List (Nat × List (Nat × Nat))):=
 match n with
 | _=>none
def C:Cfg R:=⟨ag br,Γ R c1,fun _=>false,h,0,fun _=>false⟩
theorem k (κ:KT R) (k:Nat) (a0 a1:_):cA (C R c1) Tryz.f163 10000 k [.str a0,.str a1] κ=cL.e c1 a0 a1 (K0 κ):=by kernel_rfl
end
theorem ae {R:Type} (tab:cg) (f:ay tab) (g:Nat):bT (R:=R) Tryz.prog (ag br) tab g ((C R bN).call g):=by
 refine aI fun xs κ => ?_
 show aa _ _ _ g xs κ (Γ R bN g xs κ)
 unfold Γ
 split
 ·split
  ·exact bN.aF tab f _ _ κ
  ·exact aa.none
 ·exact aa.none
theorem aF {R:Type} (tab:cg) (f:ay tab) (a0 a1:_) (κ:KT R):aa Tryz.prog (ag br) tab 163 [.str a0,.str a1] κ (cL a0 a1 (K0 κ)):=aj (C:=C R bN) (fn:=Tryz.f163) cE (ae tab f) (by kernel_rfl) (by kernel_rfl) (by rw [k];rfl)
end cL
namespace aQ
abbrev K0 {R:Type} (κ:KT R):BA->Y1 R:=fun f=>κ [.str f]
section
variable (R:Type) (c1:cL.F R)
def Γ (g:Nat) (xs:List SV) (κ:KT R):Y1 R:=
 match g with
 | 163=>(match xs with
  | [.str a0,.str a1]=>c1 a0 a1 (cL.K0 κ)
  | _=>none)
 | _=>none
def h (n:Nat):Option (List (Nat × List (Nat × Nat))):=
 match n with
 | _=>none
def C:Cfg R:=⟨ag br,Γ R c1,fun _=>false,h,0,fun _=>false⟩
theorem k (κ:KT R) (k:Nat) (a0 a1:_):cA (C R c1) Tryz.f122 10000 k [.str a0,.str a1] κ=aQ.e c1 a0 a1 (K0 κ):=by kernel_rfl
end
theorem ae {R:Type} (tab:cg) (f:ay tab) (g:Nat):bT (R:=R) Tryz.prog (ag br) tab g ((C R cL).call g):=by
 refine aI fun xs κ => ?_
 show aa _ _ _ g xs κ (Γ R cL g xs κ)
 unfold Γ
 split
 ·split
  ·exact cL.aF tab f _ _ κ
  ·exact aa.none
 ·exact aa.none
theorem aF {R:Type} (tab:cg) (f:ay tab) (a0 a1:_) (κ:KT R):aa Tryz.prog (ag br) tab 122 [.str a0,.str a1] κ (aQ a0 a1 (K0 κ)):=aj (C:=C R cL) (fn:=Tryz.f122) cE (ae tab f) (by kernel_rfl) (by kernel_rfl) (by rw [k];rfl)
end aQ
namespace aC
abbrev K0 {R:Type} (κ:KT R):Int->Y1 R:=fun f=>κ [.int .i64 f]
section
variable (R:Type) (c1:cx.F R)
def Γ (g:Nat) (xs:List SV) (κ:KT R):Y1 R:=
 match g with
 | 164=>(match xs with
  | [.str a0,.int .u8 a1]=>c1 a0 a1 (cx.K0 κ)
  | _=>none)
 | _=>none
def h (n:Nat):Option (List (Nat × List (Nat × Nat))):=
 match n with
 | _=>none
def C:Cfg R:=⟨ag br,Γ R c1,fun _=>false,h,0,fun _=>false⟩
theorem k (κ:KT R) (k:Nat) (a0 a1:_):cA (C R c1) Tryz.f123 10000 k [.str a0,.int .u8 a1] κ=aC.e c1 a0 a1 (K0 κ):=by kernel_rfl
end
theorem ae {R:Type} (tab:cg) (f:ay tab) (g:Nat):bT (R:=R) Tryz.prog (ag br) tab g ((C R cx).call g):=by
 refine aI fun xs κ => ?_
 show aa _ _ _ g xs κ (Γ R cx g xs κ)
 unfold Γ
 split
 ·split
  ·exact cx.aF tab f _ _ κ
  ·exact aa.none
 ·exact aa.none
theorem aF {R:Type} (tab:cg) (f:ay tab) (a0 a1:_) (κ:KT R):aa Tryz.prog (ag br) tab 123 [.str a0,.int .u8 a1] κ (aC a0 a1 (K0 κ)):=aj (C:=C R cx) (fn:=Tryz.f123) cE (ae tab f) (by kernel_rfl) (by kernel_rfl) (by rw [k];rfl)
end aC
namespace ch
abbrev K0 {R:Type} (κ:KT R):BA->Y1 R:=fun f=>κ [.str f]
section
variable (R:Type)
def Γ (g:Nat) (xs:List SV) (κ:KT R):Y1 R:=
 match g with
 | _=>none
def h (n:Nat):Option (List (Nat × List (Nat × Nat))):=
 match n with
 | 1=>some [(0,[(0,0)]),(1,[(0,0)])]
 | _=>none
def C:Cfg R:=⟨ag br,Γ R,fun _=>false,h,0,fun _=>false⟩
noncomputable def S:=S0 (C R) Tryz.f166 0
noncomputable def G:=G0 (C R) Tryz.f166 0
def s1:=fun x0 f=>(⟨eA 23 [(0,.str x0),(1,.int .u8 f)],[],ez⟩:St)
noncomputable abbrev q1 {R:Type} (J:JT R):BA->Int->Y1 R:=fun x0 f=>J (placeOf Tryz.f166 1) (s1 x0 f)
theorem k1 (J:JT R) (κ:KT R) (x0 f:_):S R κ J 1 (s1 x0 f)=t1 (q1 J) (K0 κ) x0 f:=by kernel_rfl
theorem k (κ:KT R) (k:Nat) (a0 a1:_):cA (C R) Tryz.f166 10000 k [.str a0,.int .u8 a1] κ=ch.e a0 a1 (q1 (G R κ k)) (K0 κ):=by kernel_rfl
theorem g1 (κ:KT R):∀ (f:Nat),q1 (G R κ f)=L1 (K0 κ) f
 | 0=>rfl
 | f+1=>by
  funext x0 j
  show S R κ (G R κ f) 1 _=_
  rw [k1,g1 κ f]
  rfl
end
theorem ae {R:Type} (tab:cg) (f:ay tab) (g:Nat):bT (R:=R) Tryz.prog (ag br) tab g ((C R).call g):=by
 refine aI fun xs κ => ?_
 show aa _ _ _ g xs κ (Γ R g xs κ)
 unfold Γ
 split
 ·exact aa.none
theorem aF {R:Type} (tab:cg) (f:ay tab) (a0 a1:_) (κ:KT R):aa Tryz.prog (ag br) tab 166 [.str a0,.int .u8 a1] κ (ch a0 a1 (K0 κ)):=aj (C:=C R) (fn:=Tryz.f166) cE (ae tab f) (by kernel_rfl) (by kernel_rfl) (by rw [k];rw [g1 R κ ah];rfl)
end ch
namespace cn
abbrev K0 {R:Type} (κ:KT R):BA->Y1 R:=fun f=>κ [.str f]
section
variable (R:Type)
def Γ (g:Nat) (xs:List SV) (κ:KT R):Y1 R:=
 match g with
 | _=>none
def h (n:Nat):Option (List (Nat × List (Nat × Nat))):=
 match n with
 | 1=>some [(0,[(0,0)]),(1,[(0,0)])]
 | _=>none
def C:Cfg R:=⟨ag br,Γ R,fun _=>false,h,0,fun _=>false⟩
noncomputable def S:=S0 (C R) Tryz.f165 0
noncomputable def G:=G0 (C R) Tryz.f165 0
def s1:=fun x0 f=>(⟨eA 17 [(0,.str x0),(1,.int .u8 f)],[],ez⟩:St)
noncomputable abbrev q1 {R:Type} (J:JT R):BA->Int->Y1 R:=fun x0 f=>J (placeOf Tryz.f165 1) (s1 x0 f)
theorem k1 (J:JT R) (κ:KT R) (x0 f:_):S R κ J 1 (s1 x0 f)=t1 (q1 J) (K0 κ) x0 f:=by kernel_rfl
theorem k (κ:KT R) (k:Nat) (a0 a1:_):cA (C R) Tryz.f165 10000 k [.str a0,.int .u8 a1] κ=cn.e a0 a1 (q1 (G R κ k)) (K0 κ):=by kernel_rfl
theorem g1 (κ:KT R):∀ (f:Nat),q1 (G R κ f)=L1 (K0 κ) f
 | 0=>rfl
 | f+1=>by
  funext x0 j
  show S R κ (G R κ f) 1 _=_
  rw [k1,g1 κ f]
  rfl
end
theorem ae {R:Type} (tab:cg) (f:ay tab) (g:Nat):bT (R:=R) Tryz.prog (ag br) tab g ((C R).call g):=by
 refine aI fun xs κ => ?_
 show aa _ _ _ g xs κ (Γ R g xs κ)
 unfold Γ
 split
 ·exact aa.none
theorem aF {R:Type} (tab:cg) (f:ay tab) (a0 a1:_) (κ:KT R):aa Tryz.prog (ag br) tab 165 [.str a0,.int .u8 a1] κ (cn a0 a1 (K0 κ)):=aj (C:=C R) (fn:=Tryz.f165) cE (ae tab f) (by kernel_rfl) (by kernel_rfl) (by rw [k];rw [g1 R κ ah];rfl)
end cn
namespace cj
abbrev K0 {R:Type} (κ:KT R):LA->Y3->Y1 R:=fun f j=>κ [.tup [.ar 4 256 f,.bool j]]
section
variable (R:Type)
def Γ (g:Nat) (xs:List SV) (κ:KT R):Y1 R:=
 match g with
 | _=>none
def h (n:Nat):Option (List (Nat × List (Nat × Nat))):=
 match n with
 | 2=>some [(0,[(0,0)]),(2,[(0,0)]),(4,[(0,0)])]
 | _=>none
def C:Cfg R:=⟨ag br,Γ R,fun _=>false,h,0,fun _=>false⟩
noncomputable def S:=S0 (C R) Tryz.f167 0
noncomputable def G:=G0 (C R) Tryz.f167 0
def s2:=fun x0 f j=>(⟨eA 21 [(0,.str x0),(2,.ap 192 256),(4,.int .i64 f)],[(192,.row 4 j true)],ez⟩:St)
noncomputable abbrev q2 {R:Type} (J:JT R):J2 R:=fun x0 f j=>J (placeOf Tryz.f167 2) (s2 x0 f j)
theorem k2 (J:JT R) (κ:KT R) (x0 f j:_):S R κ J 2 (s2 x0 f j)=t2 (q2 J) (K0 κ) x0 f j:=by kernel_rfl
theorem k (κ:KT R) (k:Nat) (a0:_):cA (C R) Tryz.f167 10000 k [.str a0] κ=cj.e a0 (q2 (G R κ k)) (K0 κ):=by kernel_rfl
theorem g2 (κ:KT R):∀ (f:Nat),q2 (G R κ f)=L2 (K0 κ) f
 | 0=>rfl
 | f+1=>by
  funext x0 j m
  show S R κ (G R κ f) 2 _=_
  rw [k2,g2 κ f]
  rfl
end
theorem ae {R:Type} (tab:cg) (f:ay tab) (g:Nat):bT (R:=R) Tryz.prog (ag br) tab g ((C R).call g):=by
 refine aI fun xs κ => ?_
 show aa _ _ _ g xs κ (Γ R g xs κ)
 unfold Γ
 split
 ·exact aa.none
theorem aF {R:Type} (tab:cg) (f:ay tab) (a0:_) (κ:KT R):aa Tryz.prog (ag br) tab 167 [.str a0] κ (cj a0 (K0 κ)):=aj (C:=C R) (fn:=Tryz.f167) cE (ae tab f) (by kernel_rfl) (by kernel_rfl) (by rw [k];rw [g2 R κ ah];rfl)
end cj
namespace au
abbrev K0 {R:Type} (κ:KT R):Y3->Y1 R:=fun f=>κ [.bool f]
section
variable (R:Type)
def Γ (g:Nat) (xs:List SV) (κ:KT R):Y1 R:=
 match g with
 | _=>none
def h (n:Nat):Option (List (Nat × List (Nat × Nat))):=
 match n with
 | _=>none
def C:Cfg R:=⟨ag br,Γ R,fun _=>false,h,0,fun _=>false⟩
theorem k (κ:KT R) (k:Nat) (a0 a1:_):cA (C R) Tryz.f193 10000 k [.ra 4 256 a0 true,.int .u8 a1] κ=au.e a0 a1 (K0 κ):=by kernel_rfl
end
theorem ae {R:Type} (tab:cg) (f:ay tab) (g:Nat):bT (R:=R) Tryz.prog (ag br) tab g ((C R).call g):=by
 refine aI fun xs κ => ?_
 show aa _ _ _ g xs κ (Γ R g xs κ)
 unfold Γ
 split
 ·exact aa.none
theorem aF {R:Type} (tab:cg) (f:ay tab) (a0 a1:_) (κ:KT R):aa Tryz.prog (ag br) tab 193 [.ra 4 256 a0 true,.int .u8 a1] κ (au a0 a1 (K0 κ)):=aj (C:=C R) (fn:=Tryz.f193) cE (ae tab f) (by kernel_rfl) (by kernel_rfl) (by rw [k];rfl)
end au
namespace bm
abbrev K0 {R:Type} (κ:KT R):BA->Y1 R:=fun f=>κ [.str f]
section
variable (R:Type) (c1:au.F R)
def Γ (g:Nat) (xs:List SV) (κ:KT R):Y1 R:=
 match g with
 | 193=>(match xs with
  | [.ra 4 256 a0 true,.int .u8 a1]=>c1 a0 a1 (au.K0 κ)
  | _=>none)
 | _=>none
def h (n:Nat):Option (List (Nat × List (Nat × Nat))):=
 match n with
 | 1=>some [(0,[(0,0)]),(1,[(0,0)])]
 | _=>none
def C:Cfg R:=⟨ag br,Γ R c1,fun g=>Nat.beq g 193,h,0,fun _=>false⟩
noncomputable def S:=S0 (C R c1) Tryz.f169 0
noncomputable def G:=G0 (C R c1) Tryz.f169 0
def s1:=fun x0 f=>(⟨eA 22 [(0,.str x0),(1,.ra 4 256 f true)],[],ez⟩:St)
noncomputable abbrev q1 {R:Type} (J:JT R):BA->LA->Y1 R:=fun x0 f=>J (placeOf Tryz.f169 1) (s1 x0 f)
theorem k1 (J:JT R) (κ:KT R) (x0 f:_):S R c1 κ J 1 (s1 x0 f)=t1 c1 (q1 J) (K0 κ) x0 f:=by kernel_rfl
theorem k (κ:KT R) (k:Nat) (a0 a1:_):cA (C R c1) Tryz.f169 10000 k [.str a0,.ra 4 256 a1 true] κ=bm.e c1 a0 a1 (q1 (G R c1 κ k)) (K0 κ):=by kernel_rfl
theorem g1 (κ:KT R):∀ (f:Nat),q1 (G R c1 κ f)=L1 c1 (K0 κ) f
 | 0=>rfl
 | f+1=>by
  funext x0 j
  show S R c1 κ (G R c1 κ f) 1 _=_
  rw [k1,g1 κ f]
  rfl
end
theorem ae {R:Type} (tab:cg) (f:ay tab) (g:Nat):bT (R:=R) Tryz.prog (ag br) tab g ((C R au).call g):=by
 refine aI fun xs κ => ?_
 show aa _ _ _ g xs κ (Γ R au g xs κ)
 unfold Γ
 split
 ·split
  ·exact au.aF tab f _ _ κ
  ·exact aa.none
 ·exact aa.none
theorem aF {R:Type} (tab:cg) (f:ay tab) (a0 a1:_) (κ:KT R):aa Tryz.prog (ag br) tab 169 [.str a0,.ra 4 256 a1 true] κ (bm a0 a1 (K0 κ)):=aj (C:=C R au) (fn:=Tryz.f169) cE (ae tab f) (by kernel_rfl) (by kernel_rfl) (by rw [k];rw [g1 R au κ ah];rfl)
end bm
namespace bu
abbrev K0 {R:Type} (κ:KT R):BA->Y1 R:=fun f=>κ [.str f]
section
variable (R:Type) (c1:au.F R)
def Γ (g:Nat) (xs:List SV) (κ:KT R):Y1 R:=
 match g with
 | 193=>(match xs with
  | [.ra 4 256 a0 true,.int .u8 a1]=>c1 a0 a1 (au.K0 κ)
  | _=>none)
 | _=>none
def h (n:Nat):Option (List (Nat × List (Nat × Nat))):=
 match n with
 | 1=>some [(0,[(0,0)]),(1,[(0,0)])]
 | _=>none
def C:Cfg R:=⟨ag br,Γ R c1,fun g=>Nat.beq g 193,h,0,fun _=>false⟩
noncomputable def S:=S0 (C R c1) Tryz.f168 0
noncomputable def G:=G0 (C R c1) Tryz.f168 0
def s1:=fun x0 f=>(⟨eA 16 [(0,.str x0),(1,.ra 4 256 f true)],[],ez⟩:St)
noncomputable abbrev q1 {R:Type} (J:JT R):BA->LA->Y1 R:=fun x0 f=>J (placeOf Tryz.f168 1) (s1 x0 f)
theorem k1 (J:JT R) (κ:KT R) (x0 f:_):S R c1 κ J 1 (s1 x0 f)=t1 c1 (q1 J) (K0 κ) x0 f:=by kernel_rfl
theorem k (κ:KT R) (k:Nat) (a0 a1:_):cA (C R c1) Tryz.f168 10000 k [.str a0,.ra 4 256 a1 true] κ=bu.e c1 a0 a1 (q1 (G R c1 κ k)) (K0 κ):=by kernel_rfl
theorem g1 (κ:KT R):∀ (f:Nat),q1 (G R c1 κ f)=L1 c1 (K0 κ) f
 | 0=>rfl
 | f+1=>by
  funext x0 j
  show S R c1 κ (G R c1 κ f) 1 _=_
  rw [k1,g1 κ f]
  rfl
end
theorem ae {R:Type} (tab:cg) (f:ay tab) (g:Nat):bT (R:=R) Tryz.prog (ag br) tab g ((C R au).call g):=by
 refine aI fun xs κ => ?_
 show aa _ _ _ g xs κ (Γ R au g xs κ)
 unfold Γ
 split
 ·split
  ·exact au.aF tab f _ _ κ
  ·exact aa.none
 ·exact aa.none
theorem aF {R:Type} (tab:cg) (f:ay tab) (a0 a1:_) (κ:KT R):aa Tryz.prog (ag br) tab 168 [.str a0,.ra 4 256 a1 true] κ (bu a0 a1 (K0 κ)):=aj (C:=C R au) (fn:=Tryz.f168) cE (ae tab f) (by kernel_rfl) (by kernel_rfl) (by rw [k];rw [g1 R au κ ah];rfl)
end bu
namespace bR
abbrev K0 {R:Type} (κ:KT R):BA->Y1 R:=fun f=>κ [.str f]
section
variable (R:Type) (c1:ch.F R) (c2:cn.F R) (c3:cj.F R) (c4:bm.F R) (c5:bu.F R)
def Γ (g:Nat) (xs:List SV) (κ:KT R):Y1 R:=
 match g with
 | 165=>(match xs with
  | [.str a0,.int .u8 a1]=>c2 a0 a1 (cn.K0 κ)
  | _=>none)
 | 166=>(match xs with
  | [.str a0,.int .u8 a1]=>c1 a0 a1 (ch.K0 κ)
  | _=>none)
 | 167=>(match xs with
  | [.str a0]=>c3 a0 (cj.K0 κ)
  | _=>none)
 | 168=>(match xs with
  | [.str a0,.ra 4 256 a1 true]=>c5 a0 a1 (bu.K0 κ)
  | _=>none)
 | 169=>(match xs with
  | [.str a0,.ra 4 256 a1 true]=>c4 a0 a1 (bm.K0 κ)
  | _=>none)
 | _=>none
def h (n:Nat):Option (List (Nat × List (Nat × Nat))):=
 match n with
 | _=>none
def C:Cfg R:=⟨ag br,Γ R c1 c2 c3 c4 c5,fun g=>Nat.beq g 168||Nat.beq g 169,h,0,fun _=>false⟩
theorem k (κ:KT R) (k:Nat) (a0 a1:_):cA (C R c1 c2 c3 c4 c5) Tryz.f124 10000 k [.str a0,.str a1] κ=bR.e c1 c2 c3 c4 c5 a0 a1 (K0 κ):=by kernel_rfl
end
theorem ae {R:Type} (tab:cg) (f:ay tab) (g:Nat):bT (R:=R) Tryz.prog (ag br) tab g ((C R ch cn cj bm bu).call g):=by
 refine aI fun xs κ => ?_
 show aa _ _ _ g xs κ (Γ R ch cn cj bm bu g xs κ)
 unfold Γ
 split
 ·split
  ·exact cn.aF tab f _ _ κ
  ·exact aa.none
 ·split
  ·exact ch.aF tab f _ _ κ
  ·exact aa.none
 ·split
  ·exact cj.aF tab f _ κ
  ·exact aa.none
 ·split
  ·exact bu.aF tab f _ _ κ
  ·exact aa.none
 ·split
  ·exact bm.aF tab f _ _ κ
  ·exact aa.none
 ·exact aa.none
theorem aF {R:Type} (tab:cg) (f:ay tab) (a0 a1:_) (κ:KT R):aa Tryz.prog (ag br) tab 124 [.str a0,.str a1] κ (bR a0 a1 (K0 κ)):=aj (C:=C R ch cn cj bm bu) (fn:=Tryz.f124) cE (ae tab f) (by kernel_rfl) (by kernel_rfl) (by rw [k];rfl)
end bR
namespace ba
abbrev K0 {R:Type} (κ:KT R):LA->Y1 R:=fun f=>κ [.fr 168 f true]
section
variable (R:Type) (c1:bA.F R) (c2:bR.F R) (c3:aQ.F R) (c4:aC.F R)
def Γ (g:Nat) (xs:List SV) (κ:KT R):Y1 R:=
 match g with
 | 110=>(match xs with
  | [.str a0]=>c1 a0 (bA.K0 κ)
  | _=>none)
 | 122=>(match xs with
  | [.str a0,.str a1]=>c3 a0 a1 (aQ.K0 κ)
  | _=>none)
 | 123=>(match xs with
  | [.str a0,.int .u8 a1]=>c4 a0 a1 (aC.K0 κ)
  | _=>none)
 | 124=>(match xs with
  | [.str a0,.str a1]=>c2 a0 a1 (bR.K0 κ)
  | _=>none)
 | _=>none
def h (n:Nat):Option (List (Nat × List (Nat × Nat))):=
 match n with
 | 4=>some [(3,[(0,170)]),(4,[(0,11)]),(10,[(0,0)]),(11,[(0,0)]),(12,[(0,0)])]
 | 8=>some [(3,[(0,0)]),(4,[(0,0)]),(6,[(0,0)]),(10,[(0,0)]),(11,[(0,0)]),(12,[(0,0)])]
 | 13=>some [(3,[(0,170)]),(4,[(0,11)]),(6,[(0,0)]),(7,[(0,0)]),(10,[(0,0)]),(11,[(0,0)]),(12,[(0,0)])]
 | 15=>some [(3,[(0,170)]),(4,[(0,11)]),(10,[(0,0)]),(11,[(0,0)]),(12,[(0,0)])]
 | 17=>some [(3,[(0,0)]),(4,[(0,0)]),(72,[(0,0)]),(73,[(0,0)])]
 | _=>none
def C:Cfg R:=⟨ag br,Γ R c1 c2 c3 c4,fun _=>false,h,0,fun _=>false⟩
noncomputable def S:=S0 (C R c1 c2 c3 c4) Tryz.f76 0
noncomputable def G:=G0 (C R c1 c2 c3 c4) Tryz.f76 0
def s4:=fun x0 f j m u=>(⟨eA 87 [(3,.own 256),(4,.own 320),(10,.own 704),(11,.int .i64 x0),(12,.int .i64 f)],[(256,.row 168 j true),(320,.row 9 m true),(704,.row 161 u true)],ez⟩:St)
def s8:=fun x0 f j m u z A M N=>(⟨eA 87 [(3,.own 256),(4,.own 320),(6,.ptr 511 0),(10,.own 704),(11,.int .i64 x0),(12,.int .i64 f)],[(256,.row 168 j true),(320,.row 9 m true),(511,.var 161 [.str u,.str z,.bool A,.bool M]),(704,.row 161 N true)],ez⟩:St)
def Ia:=fun x0 f j m u z A M N O=>(⟨eA 87 [(3,.own 256),(4,.own 320),(6,.ptr 511 0),(7,.str x0),(10,.own 704),(11,.int .i64 f),(12,.int .i64 j)],[(256,.row 168 m true),(320,.row 9 u true),(511,.var 161 [.str z,.str A,.bool M,.bool N]),(704,.row 161 O true)],ez⟩:St)
def F':=fun x0 f j m u=>(⟨eA 87 [(3,.own 256),(4,.own 320),(10,.own 704),(11,.int .i64 x0),(12,.int .i64 f)],[(256,.row 168 j true),(320,.row 9 m true),(704,.row 161 u true)],ez⟩:St)
def Ib:=fun x0 f j m=>(⟨eA 87 [(3,.own 256),(4,.own 320),(72,.int .i64 x0),(73,.int .i64 f)],[(256,.row 168 j true),(320,.row 9 m true)],ez⟩:St)
noncomputable abbrev q4 {R:Type} (J:JT R):J4 R:=fun x0 f j m u=>J (placeOf Tryz.f76 4) (s4 x0 f j m u)
noncomputable abbrev q8 {R:Type} (J:JT R):J8 R:=fun x0 f j m u z A M N=>J (placeOf Tryz.f76 8) (s8 x0 f j m u z A M N)
noncomputable abbrev Eh {R:Type} (J:JT R):yZ R:=fun x0 f j m u z A M N O=>J (placeOf Tryz.f76 13) (Ia x0 f j m u z A M N O)
noncomputable abbrev Bf {R:Type} (J:JT R):tJ R:=fun x0 f j m u=>J (placeOf Tryz.f76 15) (F' x0 f j m u)
noncomputable abbrev Ei {R:Type} (J:JT R):y' R:=fun x0 f j m=>J (placeOf Tryz.f76 17) (Ib x0 f j m)
theorem k4 (J:JT R) (κ:KT R) (x0 f j m u:_):S R c1 c2 c3 c4 κ J 4 (s4 x0 f j m u)=t4 (q8 J) (Bf J) (Ei J) x0 f j m u:=by kernel_rfl
theorem k8 (J:JT R) (κ:KT R) (x0 f j m u z A M N:_):S R c1 c2 c3 c4 κ J 8 (s8 x0 f j m u z A M N)=t8 c3 c4 (Eh J) x0 f j m u z A M N:=by kernel_rfl
theorem IJ (J:JT R) (κ:KT R) (x0 f j m u z A M N O:_):S R c1 c2 c3 c4 κ J 13 (Ia x0 f j m u z A M N O)=t13 (Bf J) x0 f j m u z A M N O:=by kernel_rfl
theorem HN (J:JT R) (κ:KT R) (x0 f j m u:_):S R c1 c2 c3 c4 κ J 15 (F' x0 f j m u)=t15 (q4 J) x0 f j m u:=by kernel_rfl
theorem IL (J:JT R) (κ:KT R) (x0 f j m:_):S R c1 c2 c3 c4 κ J 17 (Ib x0 f j m)=t17 c2 (Ei J) (K0 κ) x0 f j m:=by kernel_rfl
theorem k (κ:KT R) (k:Nat) (a0:_):cA (C R c1 c2 c3 c4) Tryz.f76 10000 k [.str a0] κ=ba.e c1 c2 c3 c4 a0 (q4 (G R c1 c2 c3 c4 κ k)) (q8 (G R c1 c2 c3 c4 κ k)) (Eh (G R c1 c2 c3 c4 κ k)) (Bf (G R c1 c2 c3 c4 κ k)) (Ei (G R c1 c2 c3 c4 κ k)) (K0 κ):=by kernel_rfl
theorem g17 (κ:KT R):∀ (f:Nat),Ei (G R c1 c2 c3 c4 κ f)=Aq c1 c2 c3 c4 (K0 κ) f
 | 0=>rfl
 | f+1=>by
  funext x0 j m u
  show S R c1 c2 c3 c4 κ (G R c1 c2 c3 c4 κ f) 17 _=_
  rw [IL,g17 κ f]
  rfl
theorem zo (κ:KT R):∀ (f:Nat),(q4 (G R c1 c2 c3 c4 κ f)=L4 c1 c2 c3 c4 (K0 κ) f)/\(q8 (G R c1 c2 c3 c4 κ f)=L8 c1 c2 c3 c4 (K0 κ) f)/\(Eh (G R c1 c2 c3 c4 κ f)=u6 c1 c2 c3 c4 (K0 κ) f)/\(Bf (G R c1 c2 c3 c4 κ f)=oM c1 c2 c3 c4 (K0 κ) f)
 | 0=>⟨rfl,rfl,rfl,rfl⟩
 | f+1=>by
  obtain ⟨m,u,z,j⟩:=zo κ f
  refine ⟨?_,?_,?_,?_⟩
  ·funext x0 A M N O
   show S R c1 c2 c3 c4 κ (G R c1 c2 c3 c4 κ f) 4 _=_
   rw [k4,u,j,g17 R c1 c2 c3 c4 κ f]
   rfl
  ·funext x0 A M N O U V W X
   show S R c1 c2 c3 c4 κ (G R c1 c2 c3 c4 κ f) 8 _=_
   rw [k8,z]
   rfl
  ·funext x0 A M N O U V W X Y
   show S R c1 c2 c3 c4 κ (G R c1 c2 c3 c4 κ f) 13 _=_
   rw [IJ,j]
   rfl
  ·funext x0 A M N O
   show S R c1 c2 c3 c4 κ (G R c1 c2 c3 c4 κ f) 15 _=_
   rw [HN,m]
   rfl
theorem g4 (κ:KT R) (f:Nat):q4 (G R c1 c2 c3 c4 κ f)=L4 c1 c2 c3 c4 (K0 κ) f:=(zo R c1 c2 c3 c4 κ f).1
theorem g8 (κ:KT R) (f:Nat):q8 (G R c1 c2 c3 c4 κ f)=L8 c1 c2 c3 c4 (K0 κ) f:=(zo R c1 c2 c3 c4 κ f).2.1
theorem g13 (κ:KT R) (f:Nat):Eh (G R c1 c2 c3 c4 κ f)=u6 c1 c2 c3 c4 (K0 κ) f:=(zo R c1 c2 c3 c4 κ f).2.2.1
theorem g15 (κ:KT R) (f:Nat):Bf (G R c1 c2 c3 c4 κ f)=oM c1 c2 c3 c4 (K0 κ) f:=(zo R c1 c2 c3 c4 κ f).2.2.2
end
theorem ae {R:Type} (tab:cg) (f:ay tab) (g:Nat):bT (R:=R) Tryz.prog (ag br) tab g ((C R bA bR aQ aC).call g):=by
 refine aI fun xs κ => ?_
 show aa _ _ _ g xs κ (Γ R bA bR aQ aC g xs κ)
 unfold Γ
 split
 ·split
  ·exact bA.aF tab f _ κ
  ·exact aa.none
 ·split
  ·exact aQ.aF tab f _ _ κ
  ·exact aa.none
 ·split
  ·exact aC.aF tab f _ _ κ
  ·exact aa.none
 ·split
  ·exact bR.aF tab f _ _ κ
  ·exact aa.none
 ·exact aa.none
theorem aF {R:Type} (tab:cg) (f:ay tab) (a0:_) (κ:KT R):aa Tryz.prog (ag br) tab 76 [.str a0] κ (ba a0 (K0 κ)):=aj (C:=C R bA bR aQ aC) (fn:=Tryz.f76) cE (ae tab f) (by kernel_rfl) (by kernel_rfl) (by rw [k];rw [g4 R bA bR aQ aC κ ah,g8 R bA bR aQ aC κ ah,g13 R bA bR aQ aC κ ah,g15 R bA bR aQ aC κ ah,g17 R bA bR aQ aC κ ah];rfl)
end ba
namespace bM
abbrev K0 {R:Type} (κ:KT R):BA->Y1 R:=fun f=>κ [.str f]
section
variable (R:Type)
def Γ (g:Nat) (xs:List SV) (κ:KT R):Y1 R:=
 match g with
 | _=>none
def h (n:Nat):Option (List (Nat × List (Nat × Nat))):=
 match n with
 | 3=>some [(3,[(0,0)]),(8,[(0,0)]),(9,[(0,0)]),(10,[(0,0)])]
 | _=>none
def C:Cfg R:=⟨ag br,Γ R,fun _=>false,h,0,fun _=>false⟩
noncomputable def S:=S0 (C R) Tryz.f151 0
noncomputable def G:=G0 (C R) Tryz.f151 0
def s3:=fun x0 f j=>(⟨eA 30 [(3,.own 256),(8,.own 256),(9,.int .i64 x0),(10,.int .i64 f)],[(256,.row 5 j true)],ez⟩:St)
noncomputable abbrev q3 {R:Type} (J:JT R):J3 R:=fun x0 f j=>J (placeOf Tryz.f151 3) (s3 x0 f j)
theorem k3 (J:JT R) (κ:KT R) (x0 f j:_):S R κ J 3 (s3 x0 f j)=t3 (q3 J) (K0 κ) x0 f j:=by kernel_rfl
theorem k (κ:KT R) (k:Nat) (a0:_):cA (C R) Tryz.f151 10000 k [.str a0] κ=bM.e a0 (q3 (G R κ k)) (K0 κ):=by kernel_rfl
theorem g3 (κ:KT R):∀ (f:Nat),q3 (G R κ f)=L3 (K0 κ) f
 | 0=>rfl
 | f+1=>by
  funext x0 j m
  show S R κ (G R κ f) 3 _=_
  rw [k3,g3 κ f]
  rfl
end
theorem ae {R:Type} (tab:cg) (f:ay tab) (g:Nat):bT (R:=R) Tryz.prog (ag br) tab g ((C R).call g):=by
 refine aI fun xs κ => ?_
 show aa _ _ _ g xs κ (Γ R g xs κ)
 unfold Γ
 split
 ·exact aa.none
theorem aF {R:Type} (tab:cg) (f:ay tab) (a0:_) (κ:KT R):aa Tryz.prog (ag br) tab 151 [.str a0] κ (bM a0 (K0 κ)):=aj (C:=C R) (fn:=Tryz.f151) cE (ae tab f) (by kernel_rfl) (by kernel_rfl) (by rw [k];rw [g3 R κ ah];rfl)
end bM
namespace cv
abbrev K0 {R:Type} (κ:KT R):Y3->Y1 R:=fun f=>κ [.bool f]
section
variable (R:Type) (c1:bM.F R)
def Γ (g:Nat) (xs:List SV) (κ:KT R):Y1 R:=
 match g with
 | 151=>(match xs with
  | [.str a0]=>c1 a0 (bM.K0 κ)
  | _=>none)
 | _=>none
def h (n:Nat):Option (List (Nat × List (Nat × Nat))):=
 match n with
 | _=>none
def C:Cfg R:=⟨ag br,Γ R c1,fun _=>false,h,0,fun _=>false⟩
theorem k (κ:KT R) (k:Nat) (a0 a1:_):cA (C R c1) Tryz.f111 10000 k [.str a0,.str a1] κ=cv.e c1 a0 a1 (K0 κ):=by kernel_rfl
end
theorem ae {R:Type} (tab:cg) (f:ay tab) (g:Nat):bT (R:=R) Tryz.prog (ag br) tab g ((C R bM).call g):=by
 refine aI fun xs κ => ?_
 show aa _ _ _ g xs κ (Γ R bM g xs κ)
 unfold Γ
 split
 ·split
  ·exact bM.aF tab f _ κ
  ·exact aa.none
 ·exact aa.none
theorem aF {R:Type} (tab:cg) (f:ay tab) (a0 a1:_) (κ:KT R):aa Tryz.prog (ag br) tab 111 [.str a0,.str a1] κ (cv a0 a1 (K0 κ)):=aj (C:=C R bM) (fn:=Tryz.f111) cE (ae tab f) (by kernel_rfl) (by kernel_rfl) (by rw [k];rfl)
end cv
namespace df
abbrev K0 {R:Type} (κ:KT R):Y3->BA->Y1 R:=fun f j=>κ [.agg [.bool f,.str j]]
section
variable (R:Type) (c1:cv.F R)
def Γ (g:Nat) (xs:List SV) (κ:KT R):Y1 R:=
 match g with
 | 111=>(match xs with
  | [.str a0,.str a1]=>c1 a0 a1 (cv.K0 κ)
  | _=>none)
 | _=>none
def h (n:Nat):Option (List (Nat × List (Nat × Nat))):=
 match n with
 | 2=>some [(1,[(0,0)]),(4,[(0,0)]),(7,[(0,0)]),(8,[(0,0)]),(9,[(0,0)])]
 | _=>none
def C:Cfg R:=⟨ag br,Γ R c1,fun _=>false,h,0,fun _=>false⟩
noncomputable def S:=S0 (C R c1) Tryz.f120 0
noncomputable def G:=G0 (C R c1) Tryz.f120 0
def s2:=fun x0 f j m u z=>(⟨eA 22 [(1,.str x0),(4,.ptr 383 0),(7,.ro 168 f false),(8,.int .i64 j),(9,.int .i64 m)],[(383,.var 26 [.bool u,.str z])],ez⟩:St)
noncomputable abbrev q2 {R:Type} (J:JT R):J2 R:=fun x0 f j m u z=>J (placeOf Tryz.f120 2) (s2 x0 f j m u z)
theorem k2 (J:JT R) (κ:KT R) (x0 f j m u z:_):S R c1 κ J 2 (s2 x0 f j m u z)=t2 c1 (q2 J) (K0 κ) x0 f j m u z:=by kernel_rfl
theorem k (κ:KT R) (k:Nat) (a0 a1:_):cA (C R c1) Tryz.f120 10000 k [.ro 168 a0 false,.str a1] κ=df.e c1 a0 a1 (q2 (G R c1 κ k)) (K0 κ):=by kernel_rfl
theorem g2 (κ:KT R):∀ (f:Nat),q2 (G R c1 κ f)=L2 c1 (K0 κ) f
 | 0=>rfl
 | f+1=>by
  funext x0 j m u z A
  show S R c1 κ (G R c1 κ f) 2 _=_
  rw [k2,g2 κ f]
  rfl
end
theorem ae {R:Type} (tab:cg) (f:ay tab) (g:Nat):bT (R:=R) Tryz.prog (ag br) tab g ((C R cv).call g):=by
 refine aI fun xs κ => ?_
 show aa _ _ _ g xs κ (Γ R cv g xs κ)
 unfold Γ
 split
 ·split
  ·exact cv.aF tab f _ _ κ
  ·exact aa.none
 ·exact aa.none
theorem aF {R:Type} (tab:cg) (f:ay tab) (a0 a1:_) (κ:KT R):aa Tryz.prog (ag br) tab 120 [.ro 168 a0 false,.str a1] κ (df a0 a1 (K0 κ)):=aj (C:=C R cv) (fn:=Tryz.f120) cE (ae tab f) (by kernel_rfl) (by kernel_rfl) (by rw [k];rw [g2 R cv κ ah];rfl)
end df
namespace bC
abbrev K0 {R:Type} (κ:KT R):Q0 R:=fun f j m=>κ [.int .u8 f,.vp 177 [.str j,.int .i64 m]]
section
variable (R:Type)
def Γ (g:Nat) (xs:List SV) (κ:KT R):Y1 R:=
 match g with
 | _=>none
def h (n:Nat):Option (List (Nat × List (Nat × Nat))):=
 match n with
 | _=>none
def C:Cfg R:=⟨ag br,Γ R,fun _=>false,h,0,fun _=>false⟩
theorem k (κ:KT R) (k:Nat) (a0 a1:_):cA (C R) Tryz.f205 10000 k [.vp 177 [.str a0,.int .i64 a1]] κ=bC.e a0 a1 (K0 κ):=by kernel_rfl
end
theorem ae {R:Type} (tab:cg) (f:ay tab) (g:Nat):bT (R:=R) Tryz.prog (ag br) tab g ((C R).call g):=by
 refine aI fun xs κ => ?_
 show aa _ _ _ g xs κ (Γ R g xs κ)
 unfold Γ
 split
 ·exact aa.none
theorem aF {R:Type} (tab:cg) (f:ay tab) (a0 a1:_) (κ:KT R):aa Tryz.prog (ag br) tab 205 [.vp 177 [.str a0,.int .i64 a1]] κ (bC a0 a1 (K0 κ)):=aj (C:=C R) (fn:=Tryz.f205) cE (ae tab f) (by kernel_rfl) (by kernel_rfl) (by rw [k];rfl)
end bC
namespace aP
abbrev K0 {R:Type} (κ:KT R):BA->Int->Y1 R:=fun f j=>κ [.tup [],.vp 177 [.str f,.int .i64 j]]
section
variable (R:Type)
def Γ (g:Nat) (xs:List SV) (κ:KT R):Y1 R:=
 match g with
 | _=>none
def h (n:Nat):Option (List (Nat × List (Nat × Nat))):=
 match n with
 | 1=>some [(0,[(0,0)]),(2,[(0,0)])]
 | _=>none
def C:Cfg R:=⟨ag br,Γ R,fun _=>false,h,0,fun _=>false⟩
noncomputable def S:=S0 (C R) Tryz.f206 1
noncomputable def G:=G0 (C R) Tryz.f206 1
def s1:=fun x0 f j=>(⟨eA 58 [(0,.ptr 0 0),(2,.int .i64 x0)],[(0,.var 177 [.str f,.int .i64 j])],ez⟩:St)
noncomputable abbrev q1 {R:Type} (J:JT R):J1 R:=fun x0 f j=>J (placeOf Tryz.f206 1) (s1 x0 f j)
theorem k1 (J:JT R) (κ:KT R) (x0 f j:_):S R κ J 1 (s1 x0 f j)=t1 (q1 J) (K0 κ) x0 f j:=by kernel_rfl
theorem k (κ:KT R) (k:Nat) (a0 a1:_):cA (C R) Tryz.f206 10000 k [.vp 177 [.str a0,.int .i64 a1]] κ=aP.e a0 a1 (q1 (G R κ k)) (K0 κ):=by kernel_rfl
theorem g1 (κ:KT R):∀ (f:Nat),q1 (G R κ f)=L1 (K0 κ) f
 | 0=>rfl
 | f+1=>by
  funext x0 j m
  show S R κ (G R κ f) 1 _=_
  rw [k1,g1 κ f]
  rfl
end
theorem ae {R:Type} (tab:cg) (f:ay tab) (g:Nat):bT (R:=R) Tryz.prog (ag br) tab g ((C R).call g):=by
 refine aI fun xs κ => ?_
 show aa _ _ _ g xs κ (Γ R g xs κ)
 unfold Γ
 split
 ·exact aa.none
theorem aF {R:Type} (tab:cg) (f:ay tab) (a0 a1:_) (κ:KT R):aa Tryz.prog (ag br) tab 206 [.vp 177 [.str a0,.int .i64 a1]] κ (aP a0 a1 (K0 κ)):=aj (C:=C R) (fn:=Tryz.f206) cE (ae tab f) (by kernel_rfl) (by kernel_rfl) (by rw [k];rw [g1 R κ ah];rfl)
end aP
namespace ak
abbrev K0 {R:Type} (κ:KT R):BA->Int->Y1 R:=fun f j=>κ [.tup [],.vp 177 [.str f,.int .i64 j]]
section
variable (R:Type) (c1:bC.F R) (c2:aP.F R)
def Γ (g:Nat) (xs:List SV) (κ:KT R):Y1 R:=
 match g with
 | 205=>(match xs with
  | [.vp 177 [.str a0,.int .i64 a1]]=>c1 a0 a1 (bC.K0 κ)
  | _=>none)
 | 206=>(match xs with
  | [.vp 177 [.str a0,.int .i64 a1]]=>c2 a0 a1 (aP.K0 κ)
  | _=>none)
 | _=>none
def h (n:Nat):Option (List (Nat × List (Nat × Nat))):=
 match n with
 | 0=>some [(0,[(0,0)])]
 | _=>none
def C:Cfg R:=⟨ag br,Γ R c1 c2,fun _=>false,h,0,fun _=>false⟩
noncomputable def S:=S0 (C R c1 c2) Tryz.f175 1
noncomputable def G:=G0 (C R c1 c2) Tryz.f175 1
def s0:=fun x0 f=>(⟨eA 18 [(0,.ptr 0 0)],[(0,.var 177 [.str x0,.int .i64 f])],ez⟩:St)
noncomputable abbrev q0 {R:Type} (J:JT R):BA->Int->Y1 R:=fun x0 f=>J (placeOf Tryz.f175 0) (s0 x0 f)
theorem k0 (J:JT R) (κ:KT R) (x0 f:_):S R c1 c2 κ J 0 (s0 x0 f)=t0 c1 c2 (q0 J) (K0 κ) x0 f:=by kernel_rfl
theorem k (κ:KT R) (k:Nat) (a0 a1:_):cA (C R c1 c2) Tryz.f175 10000 k [.vp 177 [.str a0,.int .i64 a1]] κ=ak.e c1 c2 a0 a1 (q0 (G R c1 c2 κ k)) (K0 κ):=by kernel_rfl
theorem g0 (κ:KT R):∀ (f:Nat),q0 (G R c1 c2 κ f)=L0 c1 c2 (K0 κ) f
 | 0=>rfl
 | f+1=>by
  funext x0 j
  show S R c1 c2 κ (G R c1 c2 κ f) 0 _=_
  rw [k0,g0 κ f]
  rfl
end
theorem ae {R:Type} (tab:cg) (f:ay tab) (g:Nat):bT (R:=R) Tryz.prog (ag br) tab g ((C R bC aP).call g):=by
 refine aI fun xs κ => ?_
 show aa _ _ _ g xs κ (Γ R bC aP g xs κ)
 unfold Γ
 split
 ·split
  ·exact bC.aF tab f _ _ κ
  ·exact aa.none
 ·split
  ·exact aP.aF tab f _ _ κ
  ·exact aa.none
 ·exact aa.none
theorem aF {R:Type} (tab:cg) (f:ay tab) (a0 a1:_) (κ:KT R):aa Tryz.prog (ag br) tab 175 [.vp 177 [.str a0,.int .i64 a1]] κ (ak a0 a1 (K0 κ)):=aj (C:=C R bC aP) (fn:=Tryz.f175) cE (ae tab f) (by kernel_rfl) (by kernel_rfl) (by rw [k];rw [g0 R bC aP κ ah];rfl)
end ak
namespace cb
abbrev K0 {R:Type} (κ:KT R):Y3->Y1 R:=fun f=>κ [.bool f]
section
variable (R:Type)
def Γ (g:Nat) (xs:List SV) (κ:KT R):Y1 R:=
 match g with
 | _=>none
def h (n:Nat):Option (List (Nat × List (Nat × Nat))):=
 match n with
 | _=>none
def C:Cfg R:=⟨ag br,Γ R,fun _=>false,h,0,fun _=>false⟩
theorem k (κ:KT R) (k:Nat) (a0:_):cA (C R) Tryz.f231 10000 k [.int .i32 a0] κ=cb.e a0 (K0 κ):=by kernel_rfl
end
theorem ae {R:Type} (tab:cg) (f:ay tab) (g:Nat):bT (R:=R) Tryz.prog (ag br) tab g ((C R).call g):=by
 refine aI fun xs κ => ?_
 show aa _ _ _ g xs κ (Γ R g xs κ)
 unfold Γ
 split
 ·exact aa.none
theorem aF {R:Type} (tab:cg) (f:ay tab) (a0:_) (κ:KT R):aa Tryz.prog (ag br) tab 231 [.int .i32 a0] κ (cb a0 (K0 κ)):=aj (C:=C R) (fn:=Tryz.f231) cE (ae tab f) (by kernel_rfl) (by kernel_rfl) (by rw [k];rfl)
end cb
namespace cB
abbrev K0 {R:Type} (κ:KT R):Int->Y1 R:=fun f=>κ [.int .i64 f]
section
variable (R:Type)
def Γ (g:Nat) (xs:List SV) (κ:KT R):Y1 R:=
 match g with
 | _=>none
def h (n:Nat):Option (List (Nat × List (Nat × Nat))):=
 match n with
 | _=>none
def C:Cfg R:=⟨ag br,Γ R,fun _=>false,h,0,fun _=>false⟩
theorem k (κ:KT R) (k:Nat) (a0:_):cA (C R) Tryz.f203 10000 k [.int .i64 a0] κ=cB.e a0 (K0 κ):=by kernel_rfl
end
theorem ae {R:Type} (tab:cg) (f:ay tab) (g:Nat):bT (R:=R) Tryz.prog (ag br) tab g ((C R).call g):=by
 refine aI fun xs κ => ?_
 show aa _ _ _ g xs κ (Γ R g xs κ)
 unfold Γ
 split
 ·exact aa.none
theorem aF {R:Type} (tab:cg) (f:ay tab) (a0:_) (κ:KT R):aa Tryz.prog (ag br) tab 203 [.int .i64 a0] κ (cB a0 (K0 κ)):=aj (C:=C R) (fn:=Tryz.f203) cE (ae tab f) (by kernel_rfl) (by kernel_rfl) (by rw [k];rfl)
end cB
namespace cD
abbrev K0 {R:Type} (κ:KT R):Int->Y1 R:=fun f=>κ [.int .i64 f]
section
variable (R:Type) (c1:aC.F R) (c2:cb.F R) (c3:cB.F R)
def Γ (g:Nat) (xs:List SV) (κ:KT R):Y1 R:=
 match g with
 | 123=>(match xs with
  | [.str a0,.int .u8 a1]=>c1 a0 a1 (aC.K0 κ)
  | _=>none)
 | 203=>(match xs with
  | [.int .i64 a0]=>c3 a0 (cB.K0 κ)
  | _=>none)
 | 231=>(match xs with
  | [.int .i32 a0]=>c2 a0 (cb.K0 κ)
  | _=>none)
 | _=>none
def h (n:Nat):Option (List (Nat × List (Nat × Nat))):=
 match n with
 | 5=>some [(0,[(0,0)]),(1,[(0,0)]),(7,[(0,0)]),(8,[(0,0)]),(9,[(0,0)]),(10,[(0,0)])]
 | 12=>some [(0,[(0,0)]),(1,[(0,0)]),(7,[(0,0)]),(8,[(0,0)]),(9,[(0,0)]),(10,[(0,0)]),(12,[(0,0)])]
 | 38=>some [(175,[(0,0)])]
 | _=>none
def C:Cfg R:=⟨ag br,Γ R c1 c2 c3,fun _=>false,h,0,fun _=>false⟩
noncomputable def S:=S0 (C R c1 c2 c3) Tryz.f216 0
noncomputable def G:=G0 (C R c1 c2 c3) Tryz.f216 0
def s5:=fun x0 f j m u z=>(⟨eA 187 [(0,.str x0),(1,.int .i32 f),(7,.str j),(8,.int .i64 m),(9,.int .i64 u),(10,.int .i64 z)],[],ez⟩:St)
def Jn:=fun x0 f j m u z A=>(⟨eA 187 [(0,.str x0),(1,.int .i32 f),(7,.str j),(8,.int .i64 m),(9,.int .i64 u),(10,.int .i64 z),(12,.int .i64 A)],[],ez⟩:St)
def Jr:=fun x0 f=>(⟨eA 187 [(175,.ptr 11327 0)],[(11327,.sit x0 f)],ez⟩:St)
noncomputable abbrev q5 {R:Type} (J:JT R):J5 R:=fun x0 f j m u z=>J (placeOf Tryz.f216 5) (s5 x0 f j m u z)
noncomputable abbrev H6 {R:Type} (J:JT R):Ge R:=fun x0 f j m u z A=>J (placeOf Tryz.f216 12) (Jn x0 f j m u z A)
noncomputable abbrev I7 {R:Type} (J:JT R):BA->Nat->Y1 R:=fun x0 f=>J (placeOf Tryz.f216 38) (Jr x0 f)
theorem k5 (J:JT R) (κ:KT R) (x0 f j m u z:_):S R c1 c2 c3 κ J 5 (s5 x0 f j m u z)=t5 c1 (H6 J) (K0 κ) x0 f j m u z:=by kernel_rfl
theorem Jx (J:JT R) (κ:KT R) (x0 f j m u z A:_):S R c1 c2 c3 κ J 12 (Jn x0 f j m u z A)=t12 c3 (q5 J) (H6 J) (K0 κ) x0 f j m u z A:=by kernel_rfl
theorem JB (J:JT R) (κ:KT R) (x0 f:_):S R c1 c2 c3 κ J 38 (Jr x0 f)=t38 (I7 J) (K0 κ) x0 f:=by kernel_rfl
theorem k (κ:KT R) (k:Nat) (a0 a1:_):cA (C R c1 c2 c3) Tryz.f216 10000 k [.str a0,.int .i32 a1] κ=cD.e c1 c2 c3 a0 a1 (q5 (G R c1 c2 c3 κ k)) (H6 (G R c1 c2 c3 κ k)) (I7 (G R c1 c2 c3 κ k)) (K0 κ):=by kernel_rfl
theorem FO (κ:KT R):∀ (f:Nat),(q5 (G R c1 c2 c3 κ f)=L5 c1 c2 c3 (K0 κ) f)/\(H6 (G R c1 c2 c3 κ f)=Ix c1 c2 c3 (K0 κ) f)
 | 0=>⟨rfl,rfl⟩
 | f+1=>by
  obtain ⟨m,j⟩:=FO κ f
  refine ⟨?_,?_⟩
  ·funext x0 u z A M N
   show S R c1 c2 c3 κ (G R c1 c2 c3 κ f) 5 _=_
   rw [k5,j]
   rfl
  ·funext x0 u z A M N O
   show S R c1 c2 c3 κ (G R c1 c2 c3 κ f) 12 _=_
   rw [Jx,m,j]
   rfl
theorem g5 (κ:KT R) (f:Nat):q5 (G R c1 c2 c3 κ f)=L5 c1 c2 c3 (K0 κ) f:=(FO R c1 c2 c3 κ f).1
theorem g12 (κ:KT R) (f:Nat):H6 (G R c1 c2 c3 κ f)=Ix c1 c2 c3 (K0 κ) f:=(FO R c1 c2 c3 κ f).2
theorem Jk (κ:KT R):∀ (f:Nat),I7 (G R c1 c2 c3 κ f)=Iy c1 c2 c3 (K0 κ) f
 | 0=>rfl
 | f+1=>by
  funext x0 j
  show S R c1 c2 c3 κ (G R c1 c2 c3 κ f) 38 _=_
  rw [JB,Jk κ f]
  rfl
end
theorem ae {R:Type} (tab:cg) (f:ay tab) (g:Nat):bT (R:=R) Tryz.prog (ag br) tab g ((C R aC cb cB).call g):=by
 refine aI fun xs κ => ?_
 show aa _ _ _ g xs κ (Γ R aC cb cB g xs κ)
 unfold Γ
 split
 ·split
  ·exact aC.aF tab f _ _ κ
  ·exact aa.none
 ·split
  ·exact cB.aF tab f _ κ
  ·exact aa.none
 ·split
  ·exact cb.aF tab f _ κ
  ·exact aa.none
 ·exact aa.none
theorem aF {R:Type} (tab:cg) (f:ay tab) (a0 a1:_) (κ:KT R):aa Tryz.prog (ag br) tab 216 [.str a0,.int .i32 a1] κ (cD a0 a1 (K0 κ)):=aj (C:=C R aC cb cB) (fn:=Tryz.f216) cE (ae tab f) (by kernel_rfl) (by kernel_rfl) (by rw [k];rw [g5 R aC cb cB κ ah,g12 R aC cb cB κ ah,Jk R aC cb cB κ ah];rfl)
end cD
namespace bj
abbrev K0 {R:Type} (κ:KT R):Y3->Y1 R:=fun f=>κ [.bool f]
section
variable (R:Type) (c1:cD.F R)
def Γ (g:Nat) (xs:List SV) (κ:KT R):Y1 R:=
 match g with
 | 216=>(match xs with
  | [.str a0,.int .i32 a1]=>c1 a0 a1 (cD.K0 κ)
  | _=>none)
 | _=>none
def h (n:Nat):Option (List (Nat × List (Nat × Nat))):=
 match n with
 | _=>none
def C:Cfg R:=⟨ag br,Γ R c1,fun _=>false,h,0,fun _=>false⟩
theorem k (κ:KT R) (k:Nat) (a0 a1:_):cA (C R c1) Tryz.f194 10000 k [.str a0,.int .i32 a1] κ=bj.e c1 a0 a1 (K0 κ):=by kernel_rfl
end
theorem ae {R:Type} (tab:cg) (f:ay tab) (g:Nat):bT (R:=R) Tryz.prog (ag br) tab g ((C R cD).call g):=by
 refine aI fun xs κ => ?_
 show aa _ _ _ g xs κ (Γ R cD g xs κ)
 unfold Γ
 split
 ·split
  ·exact cD.aF tab f _ _ κ
  ·exact aa.none
 ·exact aa.none
theorem aF {R:Type} (tab:cg) (f:ay tab) (a0 a1:_) (κ:KT R):aa Tryz.prog (ag br) tab 194 [.str a0,.int .i32 a1] κ (bj a0 a1 (K0 κ)):=aj (C:=C R cD) (fn:=Tryz.f194) cE (ae tab f) (by kernel_rfl) (by kernel_rfl) (by rw [k];rfl)
end bj
namespace az
abbrev K0 {R:Type} (κ:KT R):Q0 R:=fun f j m=>κ [.str f,.vp 177 [.str j,.int .i64 m]]
section
variable (R:Type) (c1:bj.F R)
def Γ (g:Nat) (xs:List SV) (κ:KT R):Y1 R:=
 match g with
 | 194=>(match xs with
  | [.str a0,.int .i32 a1]=>c1 a0 a1 (bj.K0 κ)
  | _=>none)
 | _=>none
def h (n:Nat):Option (List (Nat × List (Nat × Nat))):=
 match n with
 | 2=>some [(0,[(0,0)]),(3,[(0,0)])]
 | _=>none
def C:Cfg R:=⟨ag br,Γ R c1,fun _=>false,h,0,fun _=>false⟩
noncomputable def S:=S0 (C R c1) Tryz.f176 1
noncomputable def G:=G0 (C R c1) Tryz.f176 1
def s2:=fun x0 f j=>(⟨eA 73 [(0,.ptr 0 0),(3,.int .i64 x0)],[(0,.var 177 [.str f,.int .i64 j])],ez⟩:St)
noncomputable abbrev q2 {R:Type} (J:JT R):J2 R:=fun x0 f j=>J (placeOf Tryz.f176 2) (s2 x0 f j)
theorem k2 (J:JT R) (κ:KT R) (x0 f j:_):S R c1 κ J 2 (s2 x0 f j)=t2 c1 (q2 J) (K0 κ) x0 f j:=by kernel_rfl
theorem k (κ:KT R) (k:Nat) (a0 a1:_):cA (C R c1) Tryz.f176 10000 k [.vp 177 [.str a0,.int .i64 a1]] κ=az.e c1 a0 a1 (q2 (G R c1 κ k)) (K0 κ):=by kernel_rfl
theorem g2 (κ:KT R):∀ (f:Nat),q2 (G R c1 κ f)=L2 c1 (K0 κ) f
 | 0=>rfl
 | f+1=>by
  funext x0 j m
  show S R c1 κ (G R c1 κ f) 2 _=_
  rw [k2,g2 κ f]
  rfl
end
theorem ae {R:Type} (tab:cg) (f:ay tab) (g:Nat):bT (R:=R) Tryz.prog (ag br) tab g ((C R bj).call g):=by
 refine aI fun xs κ => ?_
 show aa _ _ _ g xs κ (Γ R bj g xs κ)
 unfold Γ
 split
 ·split
  ·exact bj.aF tab f _ _ κ
  ·exact aa.none
 ·exact aa.none
theorem aF {R:Type} (tab:cg) (f:ay tab) (a0 a1:_) (κ:KT R):aa Tryz.prog (ag br) tab 176 [.vp 177 [.str a0,.int .i64 a1]] κ (az a0 a1 (K0 κ)):=aj (C:=C R bj) (fn:=Tryz.f176) cE (ae tab f) (by kernel_rfl) (by kernel_rfl) (by rw [k];rw [g2 R bj κ ah];rfl)
end az
namespace ao
abbrev K0 {R:Type} (κ:KT R):Q0 R:=fun f j m=>κ [.bool f,.vp 177 [.str j,.int .i64 m]]
section
variable (R:Type)
def Γ (g:Nat) (xs:List SV) (κ:KT R):Y1 R:=
 match g with
 | _=>none
def h (n:Nat):Option (List (Nat × List (Nat × Nat))):=
 match n with
 | _=>none
def C:Cfg R:=⟨ag br,Γ R,fun _=>false,h,0,fun _=>false⟩
theorem k (κ:KT R) (k:Nat) (a0 a1 a2:_):cA (C R) Tryz.f177 10000 k [.vp 177 [.str a0,.int .i64 a1],.int .u8 a2] κ=ao.e a0 a1 a2 (K0 κ):=by kernel_rfl
end
theorem ae {R:Type} (tab:cg) (f:ay tab) (g:Nat):bT (R:=R) Tryz.prog (ag br) tab g ((C R).call g):=by
 refine aI fun xs κ => ?_
 show aa _ _ _ g xs κ (Γ R g xs κ)
 unfold Γ
 split
 ·exact aa.none
theorem aF {R:Type} (tab:cg) (f:ay tab) (a0 a1 a2:_) (κ:KT R):aa Tryz.prog (ag br) tab 177 [.vp 177 [.str a0,.int .i64 a1],.int .u8 a2] κ (ao a0 a1 a2 (K0 κ)):=aj (C:=C R) (fn:=Tryz.f177) cE (ae tab f) (by kernel_rfl) (by kernel_rfl) (by rw [k];rfl)
end ao
namespace bg
abbrev K0 {R:Type} (κ:KT R):Q0 R:=fun f j m u z=>κ [.tup [.str f,.str j,.bool m],.vp 177 [.str u,.int .i64 z]]
section
variable (R:Type) (c1:ak.F R) (c2:az.F R) (c3:bM.F R) (c4:ao.F R)
def Γ (g:Nat) (xs:List SV) (κ:KT R):Y1 R:=
 match g with
 | 151=>(match xs with
  | [.str a0]=>c3 a0 (bM.K0 κ)
  | _=>none)
 | 175=>(match xs with
  | [.vp 177 [.str a0,.int .i64 a1]]=>c1 a0 a1 (ak.K0 κ)
  | _=>none)
 | 176=>(match xs with
  | [.vp 177 [.str a0,.int .i64 a1]]=>c2 a0 a1 (az.K0 κ)
  | _=>none)
 | 177=>(match xs with
  | [.vp 177 [.str a0,.int .i64 a1],.int .u8 a2]=>c4 a0 a1 a2 (ao.K0 κ)
  | _=>none)
 | _=>none
def h (n:Nat):Option (List (Nat × List (Nat × Nat))):=
 match n with
 | _=>none
def C:Cfg R:=⟨ag br,Γ R c1 c2 c3 c4,fun _=>false,h,0,fun _=>false⟩
theorem k (κ:KT R) (k:Nat) (a0 a1:_):cA (C R c1 c2 c3 c4) Tryz.f129 10000 k [.vp 177 [.str a0,.int .i64 a1]] κ=bg.e c1 c2 c3 c4 a0 a1 (K0 κ):=by kernel_rfl
end
theorem ae {R:Type} (tab:cg) (f:ay tab) (g:Nat):bT (R:=R) Tryz.prog (ag br) tab g ((C R ak az bM ao).call g):=by
 refine aI fun xs κ => ?_
 show aa _ _ _ g xs κ (Γ R ak az bM ao g xs κ)
 unfold Γ
 split
 ·split
  ·exact bM.aF tab f _ κ
  ·exact aa.none
 ·split
  ·exact ak.aF tab f _ _ κ
  ·exact aa.none
 ·split
  ·exact az.aF tab f _ _ κ
  ·exact aa.none
 ·split
  ·exact ao.aF tab f _ _ _ κ
  ·exact aa.none
 ·exact aa.none
theorem aF {R:Type} (tab:cg) (f:ay tab) (a0 a1:_) (κ:KT R):aa Tryz.prog (ag br) tab 129 [.vp 177 [.str a0,.int .i64 a1]] κ (bg a0 a1 (K0 κ)):=aj (C:=C R ak az bM ao) (fn:=Tryz.f129) cE (ae tab f) (by kernel_rfl) (by kernel_rfl) (by rw [k];rfl)
end bg
namespace av
abbrev K0 {R:Type} (κ:KT R):BA->Y1 R:=fun f=>κ [.str f,.vp 157 [.nos,.no]]
section
variable (R:Type)
def Γ (g:Nat) (xs:List SV) (κ:KT R):Y1 R:=
 match g with
 | _=>none
def h (n:Nat):Option (List (Nat × List (Nat × Nat))):=
 match n with
 | _=>none
def C:Cfg R:=⟨ag br,Γ R,fun _=>false,h,0,fun _=>false⟩
theorem k (κ:KT R) (k:Nat) (a0:_):cA (C R) Tryz.f114 10000 k [.vp 157 [.nos,.fr 5 a0 true]] κ=av.e a0 (K0 κ):=by kernel_rfl
end
theorem ae {R:Type} (tab:cg) (f:ay tab) (g:Nat):bT (R:=R) Tryz.prog (ag br) tab g ((C R).call g):=by
 refine aI fun xs κ => ?_
 show aa _ _ _ g xs κ (Γ R g xs κ)
 unfold Γ
 split
 ·exact aa.none
theorem aF {R:Type} (tab:cg) (f:ay tab) (a0:_) (κ:KT R):aa Tryz.prog (ag br) tab 114 [.vp 157 [.nos,.fr 5 a0 true]] κ (av a0 (K0 κ)):=aj (C:=C R) (fn:=Tryz.f114) cE (ae tab f) (by kernel_rfl) (by kernel_rfl) (by rw [k];rfl)
end av
theorem bL.aF {R:Type} (tab:cg) (j:ay tab) (a0:LA) (κ:List SV->Y1 R):aa Tryz.prog (ag br) tab 152 [.vp 157 [.nos,.fr 5 a0 true]] κ (bL a0 (fun f=>κ [.tup [],.vp 157 [.nos,.fr 5 f true]])):=
 pF Tryz.call152 Ex Cg (.fr _ _) κ
namespace aT
abbrev K0 {R:Type} (κ:KT R):LA->Y1 R:=fun f=>κ [.nili,.vp 157 [.nos,.fr 5 f true]]
section
variable (R:Type) (c1:bL.F R)
def Γ (g:Nat) (xs:List SV) (κ:KT R):Y1 R:=
 match g with
 | 152=>(match xs with
  | [.vp 157 [.nos,.fr 5 a0 true]]=>c1 a0 (fun f=>κ [.tup [],.vp 157 [.nos,.fr 5 f true]])
  | _=>none)
 | _=>none
def h (n:Nat):Option (List (Nat × List (Nat × Nat))):=
 match n with
 | _=>none
def C:Cfg R:=⟨ag br,Γ R c1,fun _=>false,h,0,fun _=>false⟩
theorem k (κ:KT R) (k:Nat) (a0 a1:_):cA (C R c1) Tryz.f190 10000 k [.vp 157 [.nos,.fr 5 a0 true],.int .u8 a1] κ=aT.e c1 a0 a1 (K0 κ):=by kernel_rfl
end
theorem ae {R:Type} (tab:cg) (f:ay tab) (g:Nat):bT (R:=R) Tryz.prog (ag br) tab g ((C R bL).call g):=by
 refine aI fun xs κ => ?_
 show aa _ _ _ g xs κ (Γ R bL g xs κ)
 unfold Γ
 split
 ·split
  ·exact bL.aF tab f _ κ
  ·exact aa.none
 ·exact aa.none
theorem aF {R:Type} (tab:cg) (f:ay tab) (a0 a1:_) (κ:KT R):aa Tryz.prog (ag br) tab 190 [.vp 157 [.nos,.fr 5 a0 true],.int .u8 a1] κ (aT a0 a1 (K0 κ)):=aj (C:=C R bL) (fn:=Tryz.f190) cE (ae tab f) (by kernel_rfl) (by kernel_rfl) (by rw [k];rfl)
end aT
namespace bD
abbrev K0 {R:Type} (κ:KT R):Q0 R:=fun f j m u=>κ [.tup [.str f,.bool j],.vp 177 [.str m,.int .i64 u]]
section
variable (R:Type) (c1:ao.F R) (c2:az.F R) (c3:av.F R) (c4:aT.F R)
def Γ (g:Nat) (xs:List SV) (κ:KT R):Y1 R:=
 match g with
 | 114=>(match xs with
  | [.vp 157 [.nos,.fr 5 a0 true]]=>c3 a0 (av.K0 κ)
  | _=>none)
 | 176=>(match xs with
  | [.vp 177 [.str a0,.int .i64 a1]]=>c2 a0 a1 (az.K0 κ)
  | _=>none)
 | 177=>(match xs with
  | [.vp 177 [.str a0,.int .i64 a1],.int .u8 a2]=>c1 a0 a1 a2 (ao.K0 κ)
  | _=>none)
 | 190=>(match xs with
  | [.vp 157 [.nos,.fr 5 a0 true],.int .u8 a1]=>c4 a0 a1 (aT.K0 κ)
  | _=>none)
 | _=>none
def h (n:Nat):Option (List (Nat × List (Nat × Nat))):=
 match n with
 | 5=>some [(0,[(0,0)]),(5,[(1,7)])]
 | _=>none
def C:Cfg R:=⟨ag br,Γ R c1 c2 c3 c4,fun _=>false,h,0,fun _=>false⟩
noncomputable def S:=S0 (C R c1 c2 c3 c4) Tryz.f207 1
noncomputable def G:=G0 (C R c1 c2 c3 c4) Tryz.f207 1
def s5:=fun x0 f j=>(⟨eA 78 [(0,.ptr 0 0),(5,.ptr 447 0)],[(0,.var 177 [.str x0,.int .i64 f]),(447,.var 157 [.nos,.own 385]),(385,.row 5 j true)],ez⟩:St)
noncomputable abbrev q5 {R:Type} (J:JT R):J5 R:=fun x0 f j=>J (placeOf Tryz.f207 5) (s5 x0 f j)
theorem k5 (J:JT R) (κ:KT R) (x0 f j:_):S R c1 c2 c3 c4 κ J 5 (s5 x0 f j)=t5 c3 c4 (q5 J) (K0 κ) x0 f j:=by kernel_rfl
theorem k (κ:KT R) (k:Nat) (a0 a1:_):cA (C R c1 c2 c3 c4) Tryz.f207 10000 k [.vp 177 [.str a0,.int .i64 a1]] κ=bD.e c1 c2 c3 c4 a0 a1 (q5 (G R c1 c2 c3 c4 κ k)) (K0 κ):=by kernel_rfl
theorem g5 (κ:KT R):∀ (f:Nat),q5 (G R c1 c2 c3 c4 κ f)=L5 c1 c2 c3 c4 (K0 κ) f
 | 0=>rfl
 | f+1=>by
  funext x0 j m
  show S R c1 c2 c3 c4 κ (G R c1 c2 c3 c4 κ f) 5 _=_
  rw [k5,g5 κ f]
  rfl
end
theorem ae {R:Type} (tab:cg) (f:ay tab) (g:Nat):bT (R:=R) Tryz.prog (ag br) tab g ((C R ao az av aT).call g):=by
 refine aI fun xs κ => ?_
 show aa _ _ _ g xs κ (Γ R ao az av aT g xs κ)
 unfold Γ
 split
 ·split
  ·exact av.aF tab f _ κ
  ·exact aa.none
 ·split
  ·exact az.aF tab f _ _ κ
  ·exact aa.none
 ·split
  ·exact ao.aF tab f _ _ _ κ
  ·exact aa.none
 ·split
  ·exact aT.aF tab f _ _ κ
  ·exact aa.none
 ·exact aa.none
theorem aF {R:Type} (tab:cg) (f:ay tab) (a0 a1:_) (κ:KT R):aa Tryz.prog (ag br) tab 207 [.vp 177 [.str a0,.int .i64 a1]] κ (bD a0 a1 (K0 κ)):=aj (C:=C R ao az av aT) (fn:=Tryz.f207) cE (ae tab f) (by kernel_rfl) (by kernel_rfl) (by rw [k];rw [g5 R ao az av aT κ ah];rfl)
end bD
namespace aX
abbrev K0 {R:Type} (κ:KT R):Q0 R:=fun f j m u z=>κ [.tup [.agg [.str f,.str j],.bool m],.vp 177 [.str u,.int .i64 z]]
section
variable (R:Type) (c1:ak.F R) (c2:ao.F R) (c3:az.F R) (c4:bM.F R) (c5:bD.F R)
def Γ (g:Nat) (xs:List SV) (κ:KT R):Y1 R:=
 match g with
 | 151=>(match xs with
  | [.str a0]=>c4 a0 (bM.K0 κ)
  | _=>none)
 | 175=>(match xs with
  | [.vp 177 [.str a0,.int .i64 a1]]=>c1 a0 a1 (ak.K0 κ)
  | _=>none)
 | 176=>(match xs with
  | [.vp 177 [.str a0,.int .i64 a1]]=>c3 a0 a1 (az.K0 κ)
  | _=>none)
 | 177=>(match xs with
  | [.vp 177 [.str a0,.int .i64 a1],.int .u8 a2]=>c2 a0 a1 a2 (ao.K0 κ)
  | _=>none)
 | 207=>(match xs with
  | [.vp 177 [.str a0,.int .i64 a1]]=>c5 a0 a1 (bD.K0 κ)
  | _=>none)
 | _=>none
def h (n:Nat):Option (List (Nat × List (Nat × Nat))):=
 match n with
 | _=>none
def C:Cfg R:=⟨ag br,Γ R c1 c2 c3 c4 c5,fun _=>false,h,0,fun _=>false⟩
theorem k (κ:KT R) (k:Nat) (a0 a1:_):cA (C R c1 c2 c3 c4 c5) Tryz.f178 10000 k [.vp 177 [.str a0,.int .i64 a1]] κ=aX.e c1 c2 c3 c4 c5 a0 a1 (K0 κ):=by kernel_rfl
end
theorem ae {R:Type} (tab:cg) (f:ay tab) (g:Nat):bT (R:=R) Tryz.prog (ag br) tab g ((C R ak ao az bM bD).call g):=by
 refine aI fun xs κ => ?_
 show aa _ _ _ g xs κ (Γ R ak ao az bM bD g xs κ)
 unfold Γ
 split
 ·split
  ·exact bM.aF tab f _ κ
  ·exact aa.none
 ·split
  ·exact ak.aF tab f _ _ κ
  ·exact aa.none
 ·split
  ·exact az.aF tab f _ _ κ
  ·exact aa.none
 ·split
  ·exact ao.aF tab f _ _ _ κ
  ·exact aa.none
 ·split
  ·exact bD.aF tab f _ _ κ
  ·exact aa.none
 ·exact aa.none
theorem aF {R:Type} (tab:cg) (f:ay tab) (a0 a1:_) (κ:KT R):aa Tryz.prog (ag br) tab 178 [.vp 177 [.str a0,.int .i64 a1]] κ (aX a0 a1 (K0 κ)):=aj (C:=C R ak ao az bM bD) (fn:=Tryz.f178) cE (ae tab f) (by kernel_rfl) (by kernel_rfl) (by rw [k];rfl)
end aX
namespace aL
abbrev K0 {R:Type} (κ:KT R):Q0 R:=fun f j m=>κ [.fr 129 f true,.vp 177 [.str j,.int .i64 m]]
section
variable (R:Type) (c1:aX.F R)
def Γ (g:Nat) (xs:List SV) (κ:KT R):Y1 R:=
 match g with
 | 178=>(match xs with
  | [.vp 177 [.str a0,.int .i64 a1]]=>c1 a0 a1 (aX.K0 κ)
  | _=>none)
 | _=>none
def h (n:Nat):Option (List (Nat × List (Nat × Nat))):=
 match n with
 | 3=>some [(0,[(0,0)]),(3,[(0,131)]),(4,[(0,0)])]
 | _=>none
def C:Cfg R:=⟨ag br,Γ R c1,fun _=>false,h,0,fun _=>false⟩
noncomputable def S:=S0 (C R c1) Tryz.f130 1
noncomputable def G:=G0 (C R c1) Tryz.f130 1
def s3:=fun x0 f j m=>(⟨eA 33 [(0,.ptr 0 0),(3,.own 256),(4,.mp 381)],[(0,.var 177 [.str x0,.int .i64 f]),(256,.row 129 j true),(381,.mp (.str) (.int .i64) m)],ez⟩:St)
noncomputable abbrev q3 {R:Type} (J:JT R):J3 R:=fun x0 f j m=>J (placeOf Tryz.f130 3) (s3 x0 f j m)
theorem k3 (J:JT R) (κ:KT R) (x0 f j m:_):S R c1 κ J 3 (s3 x0 f j m)=t3 c1 (q3 J) (K0 κ) x0 f j m:=by kernel_rfl
theorem k (κ:KT R) (k:Nat) (a0 a1:_):cA (C R c1) Tryz.f130 10000 k [.vp 177 [.str a0,.int .i64 a1]] κ=aL.e c1 a0 a1 (q3 (G R c1 κ k)) (K0 κ):=by kernel_rfl
theorem g3 (κ:KT R):∀ (f:Nat),q3 (G R c1 κ f)=L3 c1 (K0 κ) f
 | 0=>rfl
 | f+1=>by
  funext x0 j m u
  show S R c1 κ (G R c1 κ f) 3 _=_
  rw [k3,g3 κ f]
  rfl
end
theorem ae {R:Type} (tab:cg) (f:ay tab) (g:Nat):bT (R:=R) Tryz.prog (ag br) tab g ((C R aX).call g):=by
 refine aI fun xs κ => ?_
 show aa _ _ _ g xs κ (Γ R aX g xs κ)
 unfold Γ
 split
 ·split
  ·exact aX.aF tab f _ _ κ
  ·exact aa.none
 ·exact aa.none
theorem aF {R:Type} (tab:cg) (f:ay tab) (a0 a1:_) (κ:KT R):aa Tryz.prog (ag br) tab 130 [.vp 177 [.str a0,.int .i64 a1]] κ (aL a0 a1 (K0 κ)):=aj (C:=C R aX) (fn:=Tryz.f130) cE (ae tab f) (by kernel_rfl) (by kernel_rfl) (by rw [k];rw [g3 R aX κ ah];rfl)
end aL
namespace aB
abbrev K0 {R:Type} (κ:KT R):Q0 R:=fun f j m u=>κ [.agg [.bool f,.str j],.vp 177 [.str m,.int .i64 u]]
section
variable (R:Type) (c1:ak.F R) (c2:az.F R) (c3:bM.F R)
def Γ (g:Nat) (xs:List SV) (κ:KT R):Y1 R:=
 match g with
 | 151=>(match xs with
  | [.str a0]=>c3 a0 (bM.K0 κ)
  | _=>none)
 | 175=>(match xs with
  | [.vp 177 [.str a0,.int .i64 a1]]=>c1 a0 a1 (ak.K0 κ)
  | _=>none)
 | 176=>(match xs with
  | [.vp 177 [.str a0,.int .i64 a1]]=>c2 a0 a1 (az.K0 κ)
  | _=>none)
 | _=>none
def h (n:Nat):Option (List (Nat × List (Nat × Nat))):=
 match n with
 | _=>none
def C:Cfg R:=⟨ag br,Γ R c1 c2 c3,fun _=>false,h,0,fun _=>false⟩
theorem k (κ:KT R) (k:Nat) (a0 a1:_):cA (C R c1 c2 c3) Tryz.f131 10000 k [.vp 177 [.str a0,.int .i64 a1]] κ=aB.e c1 c2 c3 a0 a1 (K0 κ):=by kernel_rfl
end
theorem ae {R:Type} (tab:cg) (f:ay tab) (g:Nat):bT (R:=R) Tryz.prog (ag br) tab g ((C R ak az bM).call g):=by
 refine aI fun xs κ => ?_
 show aa _ _ _ g xs κ (Γ R ak az bM g xs κ)
 unfold Γ
 split
 ·split
  ·exact bM.aF tab f _ κ
  ·exact aa.none
 ·split
  ·exact ak.aF tab f _ _ κ
  ·exact aa.none
 ·split
  ·exact az.aF tab f _ _ κ
  ·exact aa.none
 ·exact aa.none
theorem aF {R:Type} (tab:cg) (f:ay tab) (a0 a1:_) (κ:KT R):aa Tryz.prog (ag br) tab 131 [.vp 177 [.str a0,.int .i64 a1]] κ (aB a0 a1 (K0 κ)):=aj (C:=C R ak az bM) (fn:=Tryz.f131) cE (ae tab f) (by kernel_rfl) (by kernel_rfl) (by rw [k];rfl)
end aB
namespace dn
abbrev K0 {R:Type} (κ:KT R):Y3->BA->Y1 R:=fun f j=>κ [.agg [.bool f,.str j]]
section
variable (R:Type) (c1:df.F R) (c2:bR.F R)
def Γ (g:Nat) (xs:List SV) (κ:KT R):Y1 R:=
 match g with
 | 120=>(match xs with
  | [.ro 168 a0 false,.str a1]=>c1 a0 a1 (df.K0 κ)
  | _=>none)
 | 124=>(match xs with
  | [.str a0,.str a1]=>c2 a0 a1 (bR.K0 κ)
  | _=>none)
 | _=>none
def h (n:Nat):Option (List (Nat × List (Nat × Nat))):=
 match n with
 | _=>none
def C:Cfg R:=⟨ag br,Γ R c1 c2,fun _=>false,h,0,fun _=>false⟩
theorem k (κ:KT R) (k:Nat) (a0 a1:_):cA (C R c1 c2) Tryz.f132 10000 k [.ro 168 a0 false,.str a1] κ=dn.e c1 c2 a0 a1 (K0 κ):=by kernel_rfl
end
theorem ae {R:Type} (tab:cg) (f:ay tab) (g:Nat):bT (R:=R) Tryz.prog (ag br) tab g ((C R df bR).call g):=by
 refine aI fun xs κ => ?_
 show aa _ _ _ g xs κ (Γ R df bR g xs κ)
 unfold Γ
 split
 ·split
  ·exact df.aF tab f _ _ κ
  ·exact aa.none
 ·split
  ·exact bR.aF tab f _ _ κ
  ·exact aa.none
 ·exact aa.none
theorem aF {R:Type} (tab:cg) (f:ay tab) (a0 a1:_) (κ:KT R):aa Tryz.prog (ag br) tab 132 [.ro 168 a0 false,.str a1] κ (dn a0 a1 (K0 κ)):=aj (C:=C R df bR) (fn:=Tryz.f132) cE (ae tab f) (by kernel_rfl) (by kernel_rfl) (by rw [k];rfl)
end dn
namespace aJ
abbrev K0 {R:Type} (κ:KT R):Q0 R:=fun f j m=>κ [.ro 9 f true,.vp 177 [.str j,.int .i64 m]]
section
variable (R:Type) (c1:aB.F R) (c2:ak.F R) (c3:ao.F R)
def Γ (g:Nat) (xs:List SV) (κ:KT R):Y1 R:=
 match g with
 | 131=>(match xs with
  | [.vp 177 [.str a0,.int .i64 a1]]=>c1 a0 a1 (aB.K0 κ)
  | _=>none)
 | 175=>(match xs with
  | [.vp 177 [.str a0,.int .i64 a1]]=>c2 a0 a1 (ak.K0 κ)
  | _=>none)
 | 177=>(match xs with
  | [.vp 177 [.str a0,.int .i64 a1],.int .u8 a2]=>c3 a0 a1 a2 (ao.K0 κ)
  | _=>none)
 | _=>none
def h (n:Nat):Option (List (Nat × List (Nat × Nat))):=
 match n with
 | 2=>some [(0,[(0,0)]),(3,[(0,11)])]
 | 8=>some [(0,[(0,0)]),(3,[(0,1)])]
 | _=>none
def C:Cfg R:=⟨ag br,Γ R c1 c2 c3,fun _=>false,h,0,fun _=>false⟩
noncomputable def S:=S0 (C R c1 c2 c3) Tryz.f133 1
noncomputable def G:=G0 (C R c1 c2 c3) Tryz.f133 1
def s2:=fun x0 f j=>(⟨eA 24 [(0,.ptr 0 0),(3,.own 256)],[(0,.var 177 [.str x0,.int .i64 f]),(256,.row 9 j true)],ez⟩:St)
def s8:=fun x0 f j=>(⟨eA 24 [(0,.ptr 0 0),(3,.ro 9 x0 true)],[(0,.var 177 [.str f,.int .i64 j])],ez⟩:St)
noncomputable abbrev q2 {R:Type} (J:JT R):J2 R:=fun x0 f j=>J (placeOf Tryz.f133 2) (s2 x0 f j)
noncomputable abbrev q8 {R:Type} (J:JT R):J8 R:=fun x0 f j=>J (placeOf Tryz.f133 8) (s8 x0 f j)
theorem k2 (J:JT R) (κ:KT R) (x0 f j:_):S R c1 c2 c3 κ J 2 (s2 x0 f j)=t2 c1 c2 c3 (q2 J) (q8 J) x0 f j:=by kernel_rfl
theorem k8 (J:JT R) (κ:KT R) (x0 f j:_):S R c1 c2 c3 κ J 8 (s8 x0 f j)=t8 (K0 κ) x0 f j:=by kernel_rfl
theorem k (κ:KT R) (k:Nat) (a0 a1:_):cA (C R c1 c2 c3) Tryz.f133 10000 k [.vp 177 [.str a0,.int .i64 a1]] κ=aJ.e c1 c2 c3 a0 a1 (q2 (G R c1 c2 c3 κ k)) (q8 (G R c1 c2 c3 κ k)) (K0 κ):=by kernel_rfl
theorem g8 (κ:KT R):∀ (f:Nat),q8 (G R c1 c2 c3 κ f)=L8 c1 c2 c3 (K0 κ) f
 | 0=>rfl
 | f+1=>by
  funext x0 j m
  show S R c1 c2 c3 κ (G R c1 c2 c3 κ f) 8 _=_
  rw [k8]
  rfl
theorem g2 (κ:KT R):∀ (f:Nat),q2 (G R c1 c2 c3 κ f)=L2 c1 c2 c3 (K0 κ) f
 | 0=>rfl
 | f+1=>by
  funext x0 j m
  show S R c1 c2 c3 κ (G R c1 c2 c3 κ f) 2 _=_
  rw [k2,g2 κ f,g8 R c1 c2 c3 κ f]
  rfl
end
theorem ae {R:Type} (tab:cg) (f:ay tab) (g:Nat):bT (R:=R) Tryz.prog (ag br) tab g ((C R aB ak ao).call g):=by
 refine aI fun xs κ => ?_
 show aa _ _ _ g xs κ (Γ R aB ak ao g xs κ)
 unfold Γ
 split
 ·split
  ·exact aB.aF tab f _ _ κ
  ·exact aa.none
 ·split
  ·exact ak.aF tab f _ _ κ
  ·exact aa.none
 ·split
  ·exact ao.aF tab f _ _ _ κ
  ·exact aa.none
 ·exact aa.none
theorem aF {R:Type} (tab:cg) (f:ay tab) (a0 a1:_) (κ:KT R):aa Tryz.prog (ag br) tab 133 [.vp 177 [.str a0,.int .i64 a1]] κ (aJ a0 a1 (K0 κ)):=aj (C:=C R aB ak ao) (fn:=Tryz.f133) cE (ae tab f) (by kernel_rfl) (by kernel_rfl) (by rw [k];rw [g2 R aB ak ao κ ah,g8 R aB ak ao κ ah];rfl)
end aJ
namespace dv
abbrev K0 {R:Type} (κ:KT R):Q0 R:=fun W X Y r3 r4 r5 r6 r7 r8 r9 f j m u z A M N O U V=>κ [.tup [],.vp 32 [.str W,.str X,.str Y,.ro 129 r3 true,.bool r4,.str r5,.bool r6,.str r7,.bool r8,.str r9,.bool f,.str j,.ro 129 m true,.ro 9 u true,.bool z,.str A,.int .i64 M,.int .i64 N,.int .i64 O,.int .i64 U,.int .i64 V,.nil]]
section
variable (R:Type) (c1:df.F R) (c2:bg.F R) (c3:aL.F R) (c4:aB.F R) (c5:dn.F R) (c6:aJ.F R)
def Γ (g:Nat) (xs:List SV) (κ:KT R):Y1 R:=
 match g with
 | 120=>(match xs with
  | [.ro 168 a0 false,.str a1]=>c1 a0 a1 (df.K0 κ)
  | _=>none)
 | 129=>(match xs with
  | [.vp 177 [.str a0,.int .i64 a1]]=>c2 a0 a1 (bg.K0 κ)
  | _=>none)
 | 130=>(match xs with
  | [.vp 177 [.str a0,.int .i64 a1]]=>c3 a0 a1 (aL.K0 κ)
  | _=>none)
 | 131=>(match xs with
  | [.vp 177 [.str a0,.int .i64 a1]]=>c4 a0 a1 (aB.K0 κ)
  | _=>none)
 | 132=>(match xs with
  | [.ro 168 a0 false,.str a1]=>c5 a0 a1 (dn.K0 κ)
  | _=>none)
 | 133=>(match xs with
  | [.vp 177 [.str a0,.int .i64 a1]]=>c6 a0 a1 (aJ.K0 κ)
  | _=>none)
 | _=>none
def h (n:Nat):Option (List (Nat × List (Nat × Nat))):=
 match n with
 | 15=>some [(0,[(3,131),(3,1),(12,131),(12,1),(13,11),(13,1)]),(1,[(0,0)])]
 | _=>none
def C:Cfg R:=⟨ag br,Γ R c1 c2 c3 c4 c5 c6,fun _=>false,h,0,fun _=>false⟩
noncomputable def S:=S0 (C R c1 c2 c3 c4 c5 c6) Tryz.f90 1
noncomputable def G:=G0 (C R c1 c2 c3 c4 c5 c6) Tryz.f90 1
def F':=fun x0 X Y x3 x4 x5 x6 x7 x8 x9 f j m u z A M N O U V W=>(⟨eA 108 [(0,.ptr 0 0),(1,.ro 168 x0 false)],[(0,.var 32 [.str X,.str Y,.str x3,.ro 129 x4 true,.bool x5,.str x6,.bool x7,.str x8,.bool x9,.str f,.bool j,.str m,.ro 129 u true,.ro 9 z true,.bool A,.str M,.int .i64 N,.int .i64 O,.int .i64 U,.int .i64 V,.int .i64 W,.nil])],ez⟩:St)
noncomputable abbrev Bf {R:Type} (J:JT R):tJ R:=fun x0 X Y x3 x4 x5 x6 x7 x8 x9 f j m u z A M N O U V W=>J (placeOf Tryz.f90 15) (F' x0 X Y x3 x4 x5 x6 x7 x8 x9 f j m u z A M N O U V W)
theorem HN (J:JT R) (κ:KT R) (x0 X Y x3 x4 x5 x6 x7 x8 x9 f j m u z A M N O U V W:_):S R c1 c2 c3 c4 c5 c6 κ J 15 (F' x0 X Y x3 x4 x5 x6 x7 x8 x9 f j m u z A M N O U V W)=t15 c1 c6 (K0 κ) x0 X Y x3 x4 x5 x6 x7 x8 x9 f j m u z A M N O U V W:=by kernel_rfl
theorem k (κ:KT R) (k:Nat) (a0 a1 a2 a3 a4 a5 U V W a9 f j a12 m u z A M N O:_):cA (C R c1 c2 c3 c4 c5 c6) Tryz.f90 10000 k [.vp 32 [.str a0,.str a1,.str a2,.nil,.bool a3,.str a4,.bool a5,.str U,.bool V,.str W,.bool a9,.str f,.nil,.nil,.bool j,.str a12,.int .i64 m,.int .i64 u,.int .i64 z,.int .i64 A,.int .i64 M,.nil],.ro 168 N false,.bool O] κ=dv.e c1 c2 c3 c4 c5 c6 a0 a1 a2 a3 a4 a5 U V W a9 f j a12 m u z A M N O (Bf (G R c1 c2 c3 c4 c5 c6 κ k)) (K0 κ):=by kernel_rfl
theorem g15 (κ:KT R):∀ (f:Nat),Bf (G R c1 c2 c3 c4 c5 c6 κ f)=oM c1 c2 c3 c4 c5 c6 (K0 κ) f
 | 0=>rfl
 | f+1=>by
  funext x0 Y x2 x3 x4 x5 x6 x7 x8 x9 j m u z A M N O U V W X
  show S R c1 c2 c3 c4 c5 c6 κ (G R c1 c2 c3 c4 c5 c6 κ f) 15 _=_
  rw [HN]
  rfl
end
theorem ae {R:Type} (tab:cg) (f:ay tab) (g:Nat):bT (R:=R) Tryz.prog (ag br) tab g ((C R df bg aL aB dn aJ).call g):=by
 refine aI fun xs κ => ?_
 show aa _ _ _ g xs κ (Γ R df bg aL aB dn aJ g xs κ)
 unfold Γ
 split
 ·split
  ·exact df.aF tab f _ _ κ
  ·exact aa.none
 ·split
  ·exact bg.aF tab f _ _ κ
  ·exact aa.none
 ·split
  ·exact aL.aF tab f _ _ κ
  ·exact aa.none
 ·split
  ·exact aB.aF tab f _ _ κ
  ·exact aa.none
 ·split
  ·exact dn.aF tab f _ _ κ
  ·exact aa.none
 ·split
  ·exact aJ.aF tab f _ _ κ
  ·exact aa.none
 ·exact aa.none
theorem aF {R:Type} (tab:cg) (X:ay tab) (a0 a1 a2 a3 a4 a5 U V W a9 f j a12 m u z A M N O:_) (κ:KT R):aa Tryz.prog (ag br) tab 90 [.vp 32 [.str a0,.str a1,.str a2,.nil,.bool a3,.str a4,.bool a5,.str U,.bool V,.str W,.bool a9,.str f,.nil,.nil,.bool j,.str a12,.int .i64 m,.int .i64 u,.int .i64 z,.int .i64 A,.int .i64 M,.nil],.ro 168 N false,.bool O] κ (dv a0 a1 a2 a3 a4 a5 U V W a9 f j a12 m u z A M N O (K0 κ)):=aj (C:=C R df bg aL aB dn aJ) (fn:=Tryz.f90) cE (ae tab X) (by kernel_rfl) (by kernel_rfl) (by rw [k];rw [g15 R df bg aL aB dn aJ κ ah];rfl)
end dv
namespace aE
abbrev K0 {R:Type} (κ:KT R):Q0 R:=fun Y r1 r2 r3 r4 r5 r6 r7 r8 r9 f j m u z A M N O U V W X=>κ [.agg [.str Y,.str r1,.str r2,.ro 129 r3 true,.bool r4,.str r5,.bool r6,.str r7,.bool r8,.str r9,.bool f,.str j,.ro 129 m true,.ro 9 u true,.bool z,.str A,.int .i64 M,.int .i64 N,.int .i64 O,.int .i64 U,.int .i64 V,.nil],.vp 94 [.str W,.int .i64 X]]
section
variable (R:Type) (c1:dN.F R) (c2:ba.F R) (c3:dv.F R)
def Γ (g:Nat) (xs:List SV) (κ:KT R):Y1 R:=
 match g with
 | 76=>(match xs with
  | [.str a0]=>c2 a0 (ba.K0 κ)
  | _=>none)
 | 89=>(match xs with
  | [.str a0]=>c1 a0 (dN.K0 κ)
  | _=>none)
 | 90=>(match xs with
  | [.vp 32 [.str a0,.str a1,.str a2,.nil,.bool a3,.str a4,.bool a5,.str U,.bool V,.str W,.bool a9,.str f,.nil,.nil,.bool j,.str a12,.int .i64 m,.int .i64 u,.int .i64 z,.int .i64 A,.int .i64 M,.nil],.ro 168 N false,.bool O]=>c3 a0 a1 a2 a3 a4 a5 U V W a9 f j a12 m u z A M N O (dv.K0 κ)
  | _=>none)
 | _=>none
def h (n:Nat):Option (List (Nat × List (Nat × Nat))):=
 match n with
 | _=>none
def C:Cfg R:=⟨ag br,Γ R c1 c2 c3,fun _=>false,h,0,fun _=>false⟩
theorem k (κ:KT R) (k:Nat) (a0 a1 a2 a3 a4:_):cA (C R c1 c2 c3) Tryz.f48 10000 k [.vp 94 [.str a0,.int .i64 a1],.agg [.int .i64 a2,.int .i64 a3],.bool a4] κ=aE.e c1 c2 c3 a0 a1 a2 a3 a4 (K0 κ):=by kernel_rfl
end
theorem ae {R:Type} (tab:cg) (f:ay tab) (g:Nat):bT (R:=R) Tryz.prog (ag br) tab g ((C R dN ba dv).call g):=by
 refine aI fun xs κ => ?_
 show aa _ _ _ g xs κ (Γ R dN ba dv g xs κ)
 unfold Γ
 split
 ·split
  ·exact ba.aF tab f _ κ
  ·exact aa.none
 ·split
  ·exact dN.aF tab f _ κ
  ·exact aa.none
 ·split
  ·exact dv.aF tab f _ _ _ _ _ _ _ _ _ _ _ _ _ _ _ _ _ _ _ _ κ
  ·exact aa.none
 ·exact aa.none
theorem aF {R:Type} (tab:cg) (f:ay tab) (a0 a1 a2 a3 a4:_) (κ:KT R):aa Tryz.prog (ag br) tab 48 [.vp 94 [.str a0,.int .i64 a1],.agg [.int .i64 a2,.int .i64 a3],.bool a4] κ (aE a0 a1 a2 a3 a4 (K0 κ)):=aj (C:=C R dN ba dv) (fn:=Tryz.f48) cE (ae tab f) (by kernel_rfl) (by kernel_rfl) (by rw [k];rfl)
end aE
namespace bY
abbrev K0 {R:Type} (κ:KT R):Q0 R:=fun X Y r2 r3 r4 r5 r6 r7 r8 r9 f j m u z A M N O U V W=>κ [.bool X,.vp 32 [.str Y,.str r2,.str r3,.ro 129 r4 true,.bool r5,.str r6,.bool r7,.str r8,.bool r9,.str f,.bool j,.str m,.ro 129 u true,.ro 9 z true,.bool A,.str M,.int .i64 N,.int .i64 O,.int .i64 U,.int .i64 V,.int .i64 W,.nil]]
section
variable (R:Type)
def Γ (g:Nat) (xs:List SV) (κ:KT R):Y1 R:=
 match g with
 | _=>none
def h (n:Nat):Option (List (Nat × List (Nat × Nat))):=
 match n with
 | _=>none
def C:Cfg R:=⟨ag br,Γ R,fun _=>false,h,0,fun _=>false⟩
theorem k (κ:KT R) (k:Nat) (a0 a1 a2 a3 a4 a5 U V W a9 f j a12 m u z A M N O a20:_):cA (C R) Tryz.f59 10000 k [.vp 32 [.str a0,.str a1,.str a2,.ro 129 a3 true,.bool a4,.str a5,.bool U,.str V,.bool W,.str a9,.bool f,.str j,.ro 129 a12 true,.ro 9 m true,.bool u,.str z,.int .i64 A,.int .i64 M,.int .i64 N,.int .i64 O,.int .i64 a20,.nil]] κ=bY.e a0 a1 a2 a3 a4 a5 U V W a9 f j a12 m u z A M N O a20 (K0 κ):=by kernel_rfl
end
theorem ae {R:Type} (tab:cg) (f:ay tab) (g:Nat):bT (R:=R) Tryz.prog (ag br) tab g ((C R).call g):=by
 refine aI fun xs κ => ?_
 show aa _ _ _ g xs κ (Γ R g xs κ)
 unfold Γ
 split
 ·exact aa.none
theorem aF {R:Type} (tab:cg) (X:ay tab) (a0 a1 a2 a3 a4 a5 U V W a9 f j a12 m u z A M N O a20:_) (κ:KT R):aa Tryz.prog (ag br) tab 59 [.vp 32 [.str a0,.str a1,.str a2,.ro 129 a3 true,.bool a4,.str a5,.bool U,.str V,.bool W,.str a9,.bool f,.str j,.ro 129 a12 true,.ro 9 m true,.bool u,.str z,.int .i64 A,.int .i64 M,.int .i64 N,.int .i64 O,.int .i64 a20,.nil]] κ (bY a0 a1 a2 a3 a4 a5 U V W a9 f j a12 m u z A M N O a20 (K0 κ)):=aj (C:=C R) (fn:=Tryz.f59) cE (ae tab X) (by kernel_rfl) (by kernel_rfl) (by rw [k];rfl)
end bY
namespace cV
abbrev K0 {R:Type} (κ:KT R):BA->Y3->Y1 R:=fun f j=>κ [.tup [.str f,.bool j]]
section
variable (R:Type) (c1:b9.F R)
def Γ (g:Nat) (xs:List SV) (κ:KT R):Y1 R:=
 match g with
 | 173=>(match xs with
  | [.str a0,.str a1]=>c1 a0 a1 (b9.K0 κ)
  | _=>none)
 | _=>none
def h (n:Nat):Option (List (Nat × List (Nat × Nat))):=
 match n with
 | _=>none
def C:Cfg R:=⟨ag br,Γ R c1,fun _=>false,h,0,fun _=>false⟩
theorem k (κ:KT R) (k:Nat) (a0 a1:_):cA (C R c1) Tryz.f225 10000 k [.str a0,.str a1] κ=cV.e c1 a0 a1 (K0 κ):=by kernel_rfl
end
theorem ae {R:Type} (tab:cg) (f:ay tab) (g:Nat):bT (R:=R) Tryz.prog (ag br) tab g ((C R b9).call g):=by
 refine aI fun xs κ => ?_
 show aa _ _ _ g xs κ (Γ R b9 g xs κ)
 unfold Γ
 split
 ·split
  ·exact b9.aF tab f _ _ κ
  ·exact aa.none
 ·exact aa.none
theorem aF {R:Type} (tab:cg) (f:ay tab) (a0 a1:_) (κ:KT R):aa Tryz.prog (ag br) tab 225 [.str a0,.str a1] κ (cV a0 a1 (K0 κ)):=aj (C:=C R b9) (fn:=Tryz.f225) cE (ae tab f) (by kernel_rfl) (by kernel_rfl) (by rw [k];rfl)
end cV
namespace cS
abbrev K0 {R:Type} (κ:KT R):BA->Y3->Y1 R:=fun f j=>κ [.tup [.str f,.bool j]]
section
variable (R:Type) (c1:cV.F R)
def Γ (g:Nat) (xs:List SV) (κ:KT R):Y1 R:=
 match g with
 | 225=>(match xs with
  | [.str a0,.str a1]=>c1 a0 a1 (cV.K0 κ)
  | _=>none)
 | _=>none
def h (n:Nat):Option (List (Nat × List (Nat × Nat))):=
 match n with
 | _=>none
def C:Cfg R:=⟨ag br,Γ R c1,fun _=>false,h,0,fun _=>false⟩
theorem k (κ:KT R) (k:Nat) (a0 a1:_):cA (C R c1) Tryz.f208 10000 k [.str a0,.str a1] κ=cS.e c1 a0 a1 (K0 κ):=by kernel_rfl
end
theorem ae {R:Type} (tab:cg) (f:ay tab) (g:Nat):bT (R:=R) Tryz.prog (ag br) tab g ((C R cV).call g):=by
 refine aI fun xs κ => ?_
 show aa _ _ _ g xs κ (Γ R cV g xs κ)
 unfold Γ
 split
 ·split
  ·exact cV.aF tab f _ _ κ
  ·exact aa.none
 ·exact aa.none
theorem aF {R:Type} (tab:cg) (f:ay tab) (a0 a1:_) (κ:KT R):aa Tryz.prog (ag br) tab 208 [.str a0,.str a1] κ (cS a0 a1 (K0 κ)):=aj (C:=C R cV) (fn:=Tryz.f208) cE (ae tab f) (by kernel_rfl) (by kernel_rfl) (by rw [k];rfl)
end cS
namespace cW
abbrev K0 {R:Type} (κ:KT R):Y3->Y3->Y1 R:=fun f j=>κ [.tup [.bool f,.bool j]]
section
variable (R:Type) (c1:cS.F R) (c2:bR.F R)
def Γ (g:Nat) (xs:List SV) (κ:KT R):Y1 R:=
 match g with
 | 124=>(match xs with
  | [.str a0,.str a1]=>c2 a0 a1 (bR.K0 κ)
  | _=>none)
 | 208=>(match xs with
  | [.str a0,.str a1]=>c1 a0 a1 (cS.K0 κ)
  | _=>none)
 | _=>none
def h (n:Nat):Option (List (Nat × List (Nat × Nat))):=
 match n with
 | _=>none
def C:Cfg R:=⟨ag br,Γ R c1 c2,fun _=>false,h,0,fun _=>false⟩
theorem k (κ:KT R) (k:Nat) (a0 a1:_):cA (C R c1 c2) Tryz.f179 10000 k [.str a0,.str a1] κ=cW.e c1 c2 a0 a1 (K0 κ):=by kernel_rfl
end
theorem ae {R:Type} (tab:cg) (f:ay tab) (g:Nat):bT (R:=R) Tryz.prog (ag br) tab g ((C R cS bR).call g):=by
 refine aI fun xs κ => ?_
 show aa _ _ _ g xs κ (Γ R cS bR g xs κ)
 unfold Γ
 split
 ·split
  ·exact bR.aF tab f _ _ κ
  ·exact aa.none
 ·split
  ·exact cS.aF tab f _ _ κ
  ·exact aa.none
 ·exact aa.none
theorem aF {R:Type} (tab:cg) (f:ay tab) (a0 a1:_) (κ:KT R):aa Tryz.prog (ag br) tab 179 [.str a0,.str a1] κ (cW a0 a1 (K0 κ)):=aj (C:=C R cS bR) (fn:=Tryz.f179) cE (ae tab f) (by kernel_rfl) (by kernel_rfl) (by rw [k];rfl)
end cW
namespace bB
abbrev K0 {R:Type} (κ:KT R):Q0 R:=fun f j m=>κ [.fr 29 f true,.vp 94 [.str j,.int .i64 m]]
section
variable (R:Type) (c1:aO.F R) (c2:cW.F R)
def Γ (g:Nat) (xs:List SV) (κ:KT R):Y1 R:=
 match g with
 | 128=>(match xs with
  | [.str a0,.str a1]=>c1 a0 a1 (aO.K0 κ)
  | _=>none)
 | 179=>(match xs with
  | [.str a0,.str a1]=>c2 a0 a1 (cW.K0 κ)
  | _=>none)
 | _=>none
def h (n:Nat):Option (List (Nat × List (Nat × Nat))):=
 match n with
 | 4=>some [(0,[(0,0)]),(2,[(0,0)]),(4,[(0,0)]),(7,[(0,31)]),(8,[(0,0)]),(9,[(0,0)])]
 | _=>none
def C:Cfg R:=⟨ag br,Γ R c1 c2,fun _=>false,h,0,fun _=>false⟩
noncomputable def S:=S0 (C R c1 c2) Tryz.f134 1
noncomputable def G:=G0 (C R c1 c2) Tryz.f134 1
def s4:=fun x0 f j m u z A M=>(⟨eA 85 [(0,.ptr 0 0),(2,.str x0),(4,.ptr 383 0),(7,.own 512),(8,.int .i64 f),(9,.int .i64 j)],[(0,.var 94 [.str m,.int .i64 u]),(383,.var 29 [.int .i64 z,.int .i64 A]),(512,.row 29 M true)],ez⟩:St)
noncomputable abbrev q4 {R:Type} (J:JT R):J4 R:=fun x0 f j m u z A M=>J (placeOf Tryz.f134 4) (s4 x0 f j m u z A M)
theorem k4 (J:JT R) (κ:KT R) (x0 f j m u z A M:_):S R c1 c2 κ J 4 (s4 x0 f j m u z A M)=t4 c1 c2 (q4 J) (K0 κ) x0 f j m u z A M:=by kernel_rfl
theorem k (κ:KT R) (k:Nat) (a0 a1 a2 a3 a4:_):cA (C R c1 c2) Tryz.f134 10000 k [.vp 94 [.str a0,.int .i64 a1],.agg [.int .i64 a2,.int .i64 a3],.str a4] κ=bB.e c1 c2 a0 a1 a2 a3 a4 (q4 (G R c1 c2 κ k)) (K0 κ):=by kernel_rfl
theorem g4 (κ:KT R):∀ (f:Nat),q4 (G R c1 c2 κ f)=L4 c1 c2 (K0 κ) f
 | 0=>rfl
 | f+1=>by
  funext x0 j m u z A M N
  show S R c1 c2 κ (G R c1 c2 κ f) 4 _=_
  rw [k4,g4 κ f]
  rfl
end
theorem ae {R:Type} (tab:cg) (f:ay tab) (g:Nat):bT (R:=R) Tryz.prog (ag br) tab g ((C R aO cW).call g):=by
 refine aI fun xs κ => ?_
 show aa _ _ _ g xs κ (Γ R aO cW g xs κ)
 unfold Γ
 split
 ·split
  ·exact aO.aF tab f _ _ κ
  ·exact aa.none
 ·split
  ·exact cW.aF tab f _ _ κ
  ·exact aa.none
 ·exact aa.none
theorem aF {R:Type} (tab:cg) (f:ay tab) (a0 a1 a2 a3 a4:_) (κ:KT R):aa Tryz.prog (ag br) tab 134 [.vp 94 [.str a0,.int .i64 a1],.agg [.int .i64 a2,.int .i64 a3],.str a4] κ (bB a0 a1 a2 a3 a4 (K0 κ)):=aj (C:=C R aO cW) (fn:=Tryz.f134) cE (ae tab f) (by kernel_rfl) (by kernel_rfl) (by rw [k];rw [g4 R aO cW κ ah];rfl)
end bB
namespace aH
abbrev K0 {R:Type} (κ:KT R):Q0 R:=fun Y r1 r2 r3 r4 r5 r6 r7 r8 r9 f j m u z A M N O U V W X=>κ [.nil,.vp 94 [.str Y,.int .i64 r1],.vp 32 [.str r2,.str r3,.str r4,.ro 129 r5 true,.bool r6,.str r7,.bool r8,.str r9,.bool f,.str j,.bool m,.str u,.ro 129 z true,.ro 9 A true,.bool M,.str N,.int .i64 O,.int .i64 U,.int .i64 V,.int .i64 W,.int .i64 X,.nil]]
abbrev K1 {R:Type} (κ:KT R):Q1 R:=fun r0 r1 r2 r3 r4 r5 r6 r7 r8 r9 f j m u z A M N O U V W X Y=>κ [.fr 29 r0 true,.vp 94 [.str r1,.int .i64 r2],.vp 32 [.str r3,.str r4,.str r5,.ro 129 r6 true,.bool r7,.str r8,.bool r9,.str f,.bool j,.str m,.bool u,.str z,.ro 129 A true,.ro 9 M true,.bool N,.str O,.int .i64 U,.int .i64 V,.int .i64 W,.int .i64 X,.int .i64 Y,.nil]]
section
variable (R:Type) (c1:bY.F R) (c2:bB.F R)
def Γ (g:Nat) (xs:List SV) (κ:KT R):Y1 R:=
 match g with
 | 59=>(match xs with
  | [.vp 32 [.str a0,.str a1,.str a2,.ro 129 a3 true,.bool a4,.str a5,.bool U,.str V,.bool W,.str a9,.bool f,.str j,.ro 129 a12 true,.ro 9 m true,.bool u,.str z,.int .i64 A,.int .i64 M,.int .i64 N,.int .i64 O,.int .i64 a20,.nil]]=>c1 a0 a1 a2 a3 a4 a5 U V W a9 f j a12 m u z A M N O a20 (bY.K0 κ)
  | _=>none)
 | 134=>(match xs with
  | [.vp 94 [.str a0,.int .i64 a1],.agg [.int .i64 a2,.int .i64 a3],.str a4]=>c2 a0 a1 a2 a3 a4 (bB.K0 κ)
  | _=>none)
 | _=>none
def h (n:Nat):Option (List (Nat × List (Nat × Nat))):=
 match n with
 | 8=>some [(0,[(0,0)]),(1,[(0,0)]),(51,[(0,0)]),(52,[(0,0)]),(53,[(0,0)])]
 | _=>none
def C:Cfg R:=⟨ag br,Γ R c1 c2,fun _=>false,h,0,fun _=>false⟩
noncomputable def S:=S0 (C R c1 c2) Tryz.f91 2
noncomputable def G:=G0 (C R c1 c2) Tryz.f91 2
def s8:=fun x0 x1 x2 x3 x4 x5 x6 x7 x8 x9 f j m u z A M N O U V W X Y ad ae=>(⟨eA 81 [(0,.ptr 0 0),(1,.ptr 1 0),(51,.ro 129 x0 true),(52,.int .i64 x1),(53,.int .i64 x2)],[(1,.var 32 [.str x3,.str x4,.str x5,.ro 129 x6 true,.bool x7,.str x8,.bool x9,.str f,.bool j,.str m,.bool u,.str z,.ro 129 A true,.ro 9 M true,.bool N,.str O,.int .i64 U,.int .i64 V,.int .i64 W,.int .i64 X,.int .i64 Y,.nil]),(0,.var 94 [.str ad,.int .i64 ae])],ez⟩:St)
noncomputable abbrev q8 {R:Type} (J:JT R):J8 R:=fun x0 x1 x2 x3 x4 x5 x6 x7 x8 x9 f j m u z A M N O U V W X Y ad ae=>J (placeOf Tryz.f91 8) (s8 x0 x1 x2 x3 x4 x5 x6 x7 x8 x9 f j m u z A M N O U V W X Y ad ae)
theorem k8 (J:JT R) (κ:KT R) (x0 x1 x2 x3 x4 x5 x6 x7 x8 x9 f j m u z A M N O U V W X Y ad ae:_):S R c1 c2 κ J 8 (s8 x0 x1 x2 x3 x4 x5 x6 x7 x8 x9 f j m u z A M N O U V W X Y ad ae)=t8 c2 (q8 J) (K0 κ) (K1 κ) x0 x1 x2 x3 x4 x5 x6 x7 x8 x9 f j m u z A M N O U V W X Y ad ae:=by kernel_rfl
theorem k (κ:KT R) (k:Nat) (a0 a1 a2 a3 a4 a5 V W X a9 f j a12 m u z A M N O a20 a21 U:_):cA (C R c1 c2) Tryz.f91 10000 k [.vp 94 [.str a0,.int .i64 a1],.vp 32 [.str a2,.str a3,.str a4,.ro 129 a5 true,.bool V,.str W,.bool X,.str a9,.bool f,.str j,.bool a12,.str m,.ro 129 u true,.ro 9 z true,.bool A,.str M,.int .i64 N,.int .i64 O,.int .i64 a20,.int .i64 a21,.int .i64 U,.nil]] κ=aH.e c1 c2 a0 a1 a2 a3 a4 a5 V W X a9 f j a12 m u z A M N O a20 a21 U (q8 (G R c1 c2 κ k)) (K0 κ) (K1 κ):=by kernel_rfl
theorem g8 (κ:KT R):∀ (f:Nat),q8 (G R c1 c2 κ f)=L8 c1 c2 (K0 κ) (K1 κ) f
 | 0=>rfl
 | f+1=>by
  funext x0 x1 x2 x3 x4 x5 x6 x7 x8 x9 j m u z A M N O U V W X Y ad ae ap
  show S R c1 c2 κ (G R c1 c2 κ f) 8 _=_
  rw [k8,g8 κ f]
  rfl
end
theorem ae {R:Type} (tab:cg) (f:ay tab) (g:Nat):bT (R:=R) Tryz.prog (ag br) tab g ((C R bY bB).call g):=by
 refine aI fun xs κ => ?_
 show aa _ _ _ g xs κ (Γ R bY bB g xs κ)
 unfold Γ
 split
 ·split
  ·exact bY.aF tab f _ _ _ _ _ _ _ _ _ _ _ _ _ _ _ _ _ _ _ _ _ κ
  ·exact aa.none
 ·split
  ·exact bB.aF tab f _ _ _ _ _ κ
  ·exact aa.none
 ·exact aa.none
theorem aF {R:Type} (tab:cg) (Y:ay tab) (a0 a1 a2 a3 a4 a5 V W X a9 f j a12 m u z A M N O a20 a21 U:_) (κ:KT R):aa Tryz.prog (ag br) tab 91 [.vp 94 [.str a0,.int .i64 a1],.vp 32 [.str a2,.str a3,.str a4,.ro 129 a5 true,.bool V,.str W,.bool X,.str a9,.bool f,.str j,.bool a12,.str m,.ro 129 u true,.ro 9 z true,.bool A,.str M,.int .i64 N,.int .i64 O,.int .i64 a20,.int .i64 a21,.int .i64 U,.nil]] κ (aH a0 a1 a2 a3 a4 a5 V W X a9 f j a12 m u z A M N O a20 a21 U (K0 κ) (K1 κ)):=aj (C:=C R bY bB) (fn:=Tryz.f91) cE (ae tab Y) (by kernel_rfl) (by kernel_rfl) (by rw [k];rw [g8 R bY bB κ ah];rfl)
end aH
namespace eu
abbrev K0 {R:Type} (κ:KT R):BA->Y1 R:=fun f=>κ [.str f]
section
variable (R:Type)
def Γ (g:Nat) (xs:List SV) (κ:KT R):Y1 R:=
 match g with
 | _=>none
def h (n:Nat):Option (List (Nat × List (Nat × Nat))):=
 match n with
 | _=>none
def C:Cfg R:=⟨ag br,Γ R,fun _=>false,h,0,fun _=>false⟩
theorem k (κ:KT R) (k:Nat) (a0:_):cA (C R) Tryz.f226 10000 k [.int .i64 a0] κ=eu.e a0 (K0 κ):=by kernel_rfl
end
theorem ae {R:Type} (tab:cg) (f:ay tab) (g:Nat):bT (R:=R) Tryz.prog (ag br) tab g ((C R).call g):=by
 refine aI fun xs κ => ?_
 show aa _ _ _ g xs κ (Γ R g xs κ)
 unfold Γ
 split
 ·exact aa.none
theorem aF {R:Type} (tab:cg) (f:ay tab) (a0:_) (κ:KT R):aa Tryz.prog (ag br) tab 226 [.int .i64 a0] κ (eu a0 (K0 κ)):=aj (C:=C R) (fn:=Tryz.f226) cE (ae tab f) (by kernel_rfl) (by kernel_rfl) (by rw [k];rfl)
end eu
namespace di
abbrev K0 {R:Type} (κ:KT R):BA->Y1 R:=fun f=>κ [.str f]
section
variable (R:Type) (c1:eu.F R)
def Γ (g:Nat) (xs:List SV) (κ:KT R):Y1 R:=
 match g with
 | 226=>(match xs with
  | [.int .i64 a0]=>c1 a0 (eu.K0 κ)
  | _=>none)
 | _=>none
def h (n:Nat):Option (List (Nat × List (Nat × Nat))):=
 match n with
 | _=>none
def C:Cfg R:=⟨ag br,Γ R c1,fun _=>false,h,0,fun _=>false⟩
theorem k (κ:KT R) (k:Nat) (a0 a1:_):cA (C R c1) Tryz.f209 10000 k [.int .i64 a0,.int .i64 a1] κ=di.e c1 a0 a1 (K0 κ):=by kernel_rfl
end
theorem ae {R:Type} (tab:cg) (f:ay tab) (g:Nat):bT (R:=R) Tryz.prog (ag br) tab g ((C R eu).call g):=by
 refine aI fun xs κ => ?_
 show aa _ _ _ g xs κ (Γ R eu g xs κ)
 unfold Γ
 split
 ·split
  ·exact eu.aF tab f _ κ
  ·exact aa.none
 ·exact aa.none
theorem aF {R:Type} (tab:cg) (f:ay tab) (a0 a1:_) (κ:KT R):aa Tryz.prog (ag br) tab 209 [.int .i64 a0,.int .i64 a1] κ (di a0 a1 (K0 κ)):=aj (C:=C R eu) (fn:=Tryz.f209) cE (ae tab f) (by kernel_rfl) (by kernel_rfl) (by rw [k];rfl)
end di
namespace eP
abbrev K0 {R:Type} (κ:KT R):BA->Y1 R:=fun f=>κ [.str f]
section
variable (R:Type) (c1:di.F R)
def Γ (g:Nat) (xs:List SV) (κ:KT R):Y1 R:=
 match g with
 | 209=>(match xs with
  | [.int .i64 a0,.int .i64 a1]=>c1 a0 a1 (di.K0 κ)
  | _=>none)
 | _=>none
def h (n:Nat):Option (List (Nat × List (Nat × Nat))):=
 match n with
 | _=>none
def C:Cfg R:=⟨ag br,Γ R c1,fun _=>false,h,0,fun _=>false⟩
theorem k (κ:KT R) (k:Nat) (a0:_):cA (C R c1) Tryz.f180 10000 k [.int .i64 a0] κ=eP.e c1 a0 (K0 κ):=by kernel_rfl
end
theorem ae {R:Type} (tab:cg) (f:ay tab) (g:Nat):bT (R:=R) Tryz.prog (ag br) tab g ((C R di).call g):=by
 refine aI fun xs κ => ?_
 show aa _ _ _ g xs κ (Γ R di g xs κ)
 unfold Γ
 split
 ·split
  ·exact di.aF tab f _ _ κ
  ·exact aa.none
 ·exact aa.none
theorem aF {R:Type} (tab:cg) (f:ay tab) (a0:_) (κ:KT R):aa Tryz.prog (ag br) tab 180 [.int .i64 a0] κ (eP a0 (K0 κ)):=aj (C:=C R di) (fn:=Tryz.f180) cE (ae tab f) (by kernel_rfl) (by kernel_rfl) (by rw [k];rfl)
end eP
namespace cH
abbrev K0 {R:Type} (κ:KT R):BA->Y1 R:=fun f=>κ [.str f]
section
variable (R:Type) (c1:eP.F R)
def Γ (g:Nat) (xs:List SV) (κ:KT R):Y1 R:=
 match g with
 | 180=>(match xs with
  | [.int .i64 a0]=>c1 a0 (eP.K0 κ)
  | _=>none)
 | _=>none
def h (n:Nat):Option (List (Nat × List (Nat × Nat))):=
 match n with
 | _=>none
def C:Cfg R:=⟨ag br,Γ R c1,fun _=>false,h,0,fun _=>false⟩
theorem k (κ:KT R) (k:Nat) (a0:_):cA (C R c1) Tryz.f135 10000 k [.int .i64 a0] κ=cH.e c1 a0 (K0 κ):=by kernel_rfl
end
theorem ae {R:Type} (tab:cg) (f:ay tab) (g:Nat):bT (R:=R) Tryz.prog (ag br) tab g ((C R eP).call g):=by
 refine aI fun xs κ => ?_
 show aa _ _ _ g xs κ (Γ R eP g xs κ)
 unfold Γ
 split
 ·split
  ·exact eP.aF tab f _ κ
  ·exact aa.none
 ·exact aa.none
theorem aF {R:Type} (tab:cg) (f:ay tab) (a0:_) (κ:KT R):aa Tryz.prog (ag br) tab 135 [.int .i64 a0] κ (cH a0 (K0 κ)):=aj (C:=C R eP) (fn:=Tryz.f135) cE (ae tab f) (by kernel_rfl) (by kernel_rfl) (by rw [k];rfl)
end cH
namespace aV
abbrev K0 {R:Type} (κ:KT R):Int->Y1 R:=fun f=>κ [.int .i64 f]
section
variable (R:Type)
def Γ (g:Nat) (xs:List SV) (κ:KT R):Y1 R:=
 match g with
 | _=>none
def h (n:Nat):Option (List (Nat × List (Nat × Nat))):=
 match n with
 | 2=>some [(2,[(0,0)]),(4,[(0,0)])]
 | _=>none
def C:Cfg R:=⟨ag br,Γ R,fun _=>false,h,0,fun _=>false⟩
noncomputable def S:=S0 (C R) Tryz.f136 0
noncomputable def G:=G0 (C R) Tryz.f136 0
def s2:=fun x0 f j=>(⟨eA 10 [(2,.int .i64 x0),(4,.ptr 383 0)],[(383,.sit f j)],ez⟩:St)
noncomputable abbrev q2 {R:Type} (J:JT R):J2 R:=fun x0 f j=>J (placeOf Tryz.f136 2) (s2 x0 f j)
theorem k2 (J:JT R) (κ:KT R) (x0 f j:_):S R κ J 2 (s2 x0 f j)=t2 (q2 J) (K0 κ) x0 f j:=by kernel_rfl
theorem k (κ:KT R) (k:Nat) (a0:_):cA (C R) Tryz.f136 10000 k [.str a0] κ=aV.e a0 (q2 (G R κ k)) (K0 κ):=by kernel_rfl
theorem g2 (κ:KT R):∀ (f:Nat),q2 (G R κ f)=L2 (K0 κ) f
 | 0=>rfl
 | f+1=>by
  funext x0 j m
  show S R κ (G R κ f) 2 _=_
  rw [k2,g2 κ f]
  rfl
end
theorem ae {R:Type} (tab:cg) (f:ay tab) (g:Nat):bT (R:=R) Tryz.prog (ag br) tab g ((C R).call g):=by
 refine aI fun xs κ => ?_
 show aa _ _ _ g xs κ (Γ R g xs κ)
 unfold Γ
 split
 ·exact aa.none
theorem aF {R:Type} (tab:cg) (f:ay tab) (a0:_) (κ:KT R):aa Tryz.prog (ag br) tab 136 [.str a0] κ (aV a0 (K0 κ)):=aj (C:=C R) (fn:=Tryz.f136) cE (ae tab f) (by kernel_rfl) (by kernel_rfl) (by rw [k];rw [g2 R κ ah];rfl)
end aV
end Go.Proofs.Ab
