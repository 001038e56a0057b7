/- Each plain function is what a call of its Go function does, checked by the kernel (no condition but what its checks ask). -/
import Derived.Test.YtneffefnlogkaaaDoorSeat
import Derived.Test.YtneffefnlogkaaaDoorText
import Derived.Test.YtneffefnlogkaaaDoorCheck1
set_option linter.unusedVariables false
set_option linter.unusedSimpArgs false
set_option maxRecDepth 4000
namespace Go.Proofs.Ab
open Go Go.Proofs
set_option maxRecDepth 100000
namespace bp
abbrev K0 {R:Type} (κ : KT R):Int->Option R:=fun r0=>κ [.int .i64 r0]
section
variable (R:Type) (c1:aN.F R) (c2:aE.F R)
def Γ (g:Nat) (xs:List SV) (κ : KT R):Option R :=
 match g with
 | 39=>(match xs with
  | [.str a0,.str a1]=>c2 a0 a1 (aE.K0 κ)
  | _=>none)
 | 51=>(match xs with
  | [.str a0]=>c1 a0 (aN.K0 κ)
  | _=>none)
 | _=>none
def h (n:Nat):Option (List (Nat × List (Nat × Nat))) :=
 match n with
 | 6=>some [(0,[(0,0)]),(1,[(0,0)]),(5,[(0,0)])]
 | _=>none
def C:Cfg R:=⟨al bN,Γ R c1 c2,fun _=>false,h,0,fun _=>false⟩
noncomputable def S:=S0 (C R c1 c2) Tryd.f29 0
noncomputable def G:=G0 (C R c1 c2) Tryd.f29 0
def s6:=fun x0 x1 x2=>(⟨eJ 34 [(0,.str x0),(1,.str x1),(5,.int .i64 x2)],[],eH⟩:St)
noncomputable abbrev q6 {R:Type} (J:JT R):J6 R:=fun x0 x1 x2=>J (placeOf Tryd.f29 6) (s6 x0 x1 x2)
theorem k6 (J:JT R) (κ : KT R) (x0 x1 x2:_):S R c1 c2 κ J 6 (s6 x0 x1 x2)=t6 c2 (q6 J) (K0 κ) x0 x1 x2:=by kernel_rfl
theorem k (κ : KT R) (k:Nat) (a0 a1:_):cv (C R c1 c2) Tryd.f29 10000 k [.str a0,.str a1] κ = bp.e c1 c2 a0 a1 (q6 (G R c1 c2 κ k)) (K0 κ):=by kernel_rfl
theorem g6 (κ : KT R):∀ (f:Nat),q6 (G R c1 c2 κ f)=L6 c1 c2 (K0 κ) f
 | 0=>rfl
 | f+1=>by
  funext x0 x1 x2
  show S R c1 c2 κ (G R c1 c2 κ f) 6 _=_
  rw [k6,g6 κ f]
  rfl
end
theorem aj {R:Type} (tab:cb) (ht:aL tab) (g:Nat):bR (R:=R) Tryd.prog (al bN) tab g ((C R aN aE).call g):=by
 refine aY fun xs κ => ?_
 show aa _ _ _ g xs κ (Γ R aN aE g xs κ)
 unfold Γ
 split
 ·split
  ·exact aE.aX tab ht _ _ κ
  ·exact aa.none
 ·split
  ·exact aN.aX tab ht _ κ
  ·exact aa.none
 ·exact aa.none
theorem aX {R:Type} (tab:cb) (ht:aL tab) (a0 a1:_) (κ : KT R):aa Tryd.prog (al bN) tab 29 [.str a0,.str a1] κ (bp a0 a1 (K0 κ)):=aw (C:=C R aN aE) (fn:=Tryd.f29) cy (aj tab ht) (by kernel_rfl) (by kernel_rfl) (by rw [k];rw [g6 R aN aE κ aH];rfl)
end bp
namespace af
abbrev K0 {R:Type} (κ : KT R):Q0 R:=fun r0 r1 r2 r3 r4 r5 r6 r7 r8 r9 r10 r11 r12 r13 r14 r15 r16 r17 r18 r19 r20 r21 r22=>κ [.bool r0,.vp 31 [.str r1,.str r2,.str r3,.ro 95 r4 true,.bool r5,.str r6,.bool r7,.str r8,.bool r9,.str r10,.bool r11,.str r12,.ro 95 r13 true,.ro 9 r14 true,.bool r15,.str r16,.int .i64 r17,.int .i64 r18,.int .i64 r19,.int .i64 r20,.int .i64 r21,.ro 31 r22 true]]
section
variable (R:Type)
def Γ (g:Nat) (xs:List SV) (κ : KT R):Option R :=
 match g with
 | _=>none
def h (n:Nat):Option (List (Nat × List (Nat × Nat))) :=
 match n with
 | _=>none
def C:Cfg R:=⟨al bN,Γ R,fun _=>false,h,0,fun _=>false⟩
theorem k (κ : KT R) (k:Nat) (a0 a1 a2 a3 a4 a5 a6 a7 a8 a9 a10 a11 a12 a13 a14 a15 a16 a17 a18 a19 a20 a21:_):cv (C R) Tryd.f21 10000 k [.vp 31 [.str a0,.str a1,.str a2,.ro 95 a3 true,.bool a4,.str a5,.bool a6,.str a7,.bool a8,.str a9,.bool a10,.str a11,.ro 95 a12 true,.ro 9 a13 true,.bool a14,.str a15,.int .i64 a16,.int .i64 a17,.int .i64 a18,.int .i64 a19,.int .i64 a20,.ro 31 a21 true]] κ = af.e a0 a1 a2 a3 a4 a5 a6 a7 a8 a9 a10 a11 a12 a13 a14 a15 a16 a17 a18 a19 a20 a21 (K0 κ):=by kernel_rfl
end
theorem aj {R:Type} (tab:cb) (ht:aL tab) (g:Nat):bR (R:=R) Tryd.prog (al bN) tab g ((C R).call g):=by
 refine aY fun xs κ => ?_
 show aa _ _ _ g xs κ (Γ R g xs κ)
 unfold Γ
 split
 ·exact aa.none
theorem aX {R:Type} (tab:cb) (ht:aL tab) (a0 a1 a2 a3 a4 a5 a6 a7 a8 a9 a10 a11 a12 a13 a14 a15 a16 a17 a18 a19 a20 a21:_) (κ : KT R):aa Tryd.prog (al bN) tab 21 [.vp 31 [.str a0,.str a1,.str a2,.ro 95 a3 true,.bool a4,.str a5,.bool a6,.str a7,.bool a8,.str a9,.bool a10,.str a11,.ro 95 a12 true,.ro 9 a13 true,.bool a14,.str a15,.int .i64 a16,.int .i64 a17,.int .i64 a18,.int .i64 a19,.int .i64 a20,.ro 31 a21 true]] κ (af a0 a1 a2 a3 a4 a5 a6 a7 a8 a9 a10 a11 a12 a13 a14 a15 a16 a17 a18 a19 a20 a21 (K0 κ)):=aw (C:=C R) (fn:=Tryd.f21) cy (aj tab ht) (by kernel_rfl) (by kernel_rfl) (by rw [k];rfl)
end af
namespace ay
abbrev K0 {R:Type} (κ : KT R):Q0 R:=fun r0 r1 r2 r3 r4 r5 r6 r7 r8 r9 r10 r11 r12 r13 r14 r15 r16 r17 r18 r19 r20 r21 r22=>κ [.bool r0,.vp 31 [.str r1,.str r2,.str r3,.ro 95 r4 true,.bool r5,.str r6,.bool r7,.str r8,.bool r9,.str r10,.bool r11,.str r12,.ro 95 r13 true,.ro 9 r14 true,.bool r15,.str r16,.int .i64 r17,.int .i64 r18,.int .i64 r19,.int .i64 r20,.int .i64 r21,.fr 31 r22 true]]
section
variable (R:Type)
def Γ (g:Nat) (xs:List SV) (κ : KT R):Option R :=
 match g with
 | _=>none
def h (n:Nat):Option (List (Nat × List (Nat × Nat))) :=
 match n with
 | _=>none
def C:Cfg R:=⟨al bN,Γ R,fun _=>false,h,0,fun _=>false⟩
theorem k (κ : KT R) (k:Nat) (a0 a1 a2 a3 a4 a5 a6 a7 a8 a9 a10 a11 a12 a13 a14 a15 a16 a17 a18 a19 a20 a21:_):cv (C R) Tryd.f21 10000 k [.vp 31 [.str a0,.str a1,.str a2,.ro 95 a3 true,.bool a4,.str a5,.bool a6,.str a7,.bool a8,.str a9,.bool a10,.str a11,.ro 95 a12 true,.ro 9 a13 true,.bool a14,.str a15,.int .i64 a16,.int .i64 a17,.int .i64 a18,.int .i64 a19,.int .i64 a20,.fr 31 a21 true]] κ = ay.e a0 a1 a2 a3 a4 a5 a6 a7 a8 a9 a10 a11 a12 a13 a14 a15 a16 a17 a18 a19 a20 a21 (K0 κ):=by kernel_rfl
end
theorem aj {R:Type} (tab:cb) (ht:aL tab) (g:Nat):bR (R:=R) Tryd.prog (al bN) tab g ((C R).call g):=by
 refine aY fun xs κ => ?_
 show aa _ _ _ g xs κ (Γ R g xs κ)
 unfold Γ
 split
 ·exact aa.none
theorem aX {R:Type} (tab:cb) (ht:aL tab) (a0 a1 a2 a3 a4 a5 a6 a7 a8 a9 a10 a11 a12 a13 a14 a15 a16 a17 a18 a19 a20 a21:_) (κ : KT R):aa Tryd.prog (al bN) tab 21 [.vp 31 [.str a0,.str a1,.str a2,.ro 95 a3 true,.bool a4,.str a5,.bool a6,.str a7,.bool a8,.str a9,.bool a10,.str a11,.ro 95 a12 true,.ro 9 a13 true,.bool a14,.str a15,.int .i64 a16,.int .i64 a17,.int .i64 a18,.int .i64 a19,.int .i64 a20,.fr 31 a21 true]] κ (ay a0 a1 a2 a3 a4 a5 a6 a7 a8 a9 a10 a11 a12 a13 a14 a15 a16 a17 a18 a19 a20 a21 (K0 κ)):=aw (C:=C R) (fn:=Tryd.f21) cy (aj tab ht) (by kernel_rfl) (by kernel_rfl) (by rw [k];rfl)
end ay
namespace bB
abbrev K0 {R:Type} (κ : KT R):Q0 R:=fun r0 r1 r2 r3 r4 r5 r6 r7 r8 r9 r10 r11 r12 r13 r14 r15 r16 r17 r18 r19 r20 r21 r22=>κ [.str r0,.vp 31 [.str r1,.str r2,.str r3,.ro 95 r4 true,.bool r5,.str r6,.bool r7,.str r8,.bool r9,.str r10,.bool r11,.str r12,.ro 95 r13 true,.ro 9 r14 true,.bool r15,.str r16,.int .i64 r17,.int .i64 r18,.int .i64 r19,.int .i64 r20,.int .i64 r21,.fr 31 r22 true]]
section
variable (R:Type) (c1:ay.F R) (c2:bT.F R)
def Γ (g:Nat) (xs:List SV) (κ : KT R):Option R :=
 match g with
 | 21=>(match xs with
  | [.vp 31 [.str a0,.str a1,.str a2,.ro 95 a3 true,.bool a4,.str a5,.bool a6,.str a7,.bool a8,.str a9,.bool a10,.str a11,.ro 95 a12 true,.ro 9 a13 true,.bool a14,.str a15,.int .i64 a16,.int .i64 a17,.int .i64 a18,.int .i64 a19,.int .i64 a20,.fr 31 a21 true]]=>c1 a0 a1 a2 a3 a4 a5 a6 a7 a8 a9 a10 a11 a12 a13 a14 a15 a16 a17 a18 a19 a20 a21 (ay.K0 κ)
  | _=>none)
 | 50=>(match xs with
  | [.int .i64 a0]=>c2 a0 (bT.K0 κ)
  | _=>none)
 | _=>none
def h (n:Nat):Option (List (Nat × List (Nat × Nat))) :=
 match n with
 | _=>none
def C:Cfg R:=⟨al bN,Γ R c1 c2,fun _=>false,h,0,fun _=>false⟩
theorem k (κ : KT R) (k:Nat) (a0 a1 a2 a3 a4 a5 a6 a7 a8 a9 a10 a11 a12 a13 a14 a15 a16 a17 a18 a19 a20 a21 a22 a23 a24:_):cv (C R c1 c2) Tryd.f28 10000 k [.vp 31 [.str a0,.str a1,.str a2,.ro 95 a3 true,.bool a4,.str a5,.bool a6,.str a7,.bool a8,.str a9,.bool a10,.str a11,.ro 95 a12 true,.ro 9 a13 true,.bool a14,.str a15,.int .i64 a16,.int .i64 a17,.int .i64 a18,.int .i64 a19,.int .i64 a20,.fr 31 a21 true],.int .i64 a22,.bool a23,.int .i64 a24] κ = bB.e c1 c2 a0 a1 a2 a3 a4 a5 a6 a7 a8 a9 a10 a11 a12 a13 a14 a15 a16 a17 a18 a19 a20 a21 a22 a23 a24 (K0 κ):=by kernel_rfl
end
theorem aj {R:Type} (tab:cb) (ht:aL tab) (g:Nat):bR (R:=R) Tryd.prog (al bN) tab g ((C R ay bT).call g):=by
 refine aY fun xs κ => ?_
 show aa _ _ _ g xs κ (Γ R ay bT g xs κ)
 unfold Γ
 split
 ·split
  ·exact ay.aX tab ht _ _ _ _ _ _ _ _ _ _ _ _ _ _ _ _ _ _ _ _ _ _ κ
  ·exact aa.none
 ·split
  ·exact bT.aX tab ht _ κ
  ·exact aa.none
 ·exact aa.none
theorem aX {R:Type} (tab:cb) (ht:aL tab) (a0 a1 a2 a3 a4 a5 a6 a7 a8 a9 a10 a11 a12 a13 a14 a15 a16 a17 a18 a19 a20 a21 a22 a23 a24:_) (κ : KT R):aa Tryd.prog (al bN) tab 28 [.vp 31 [.str a0,.str a1,.str a2,.ro 95 a3 true,.bool a4,.str a5,.bool a6,.str a7,.bool a8,.str a9,.bool a10,.str a11,.ro 95 a12 true,.ro 9 a13 true,.bool a14,.str a15,.int .i64 a16,.int .i64 a17,.int .i64 a18,.int .i64 a19,.int .i64 a20,.fr 31 a21 true],.int .i64 a22,.bool a23,.int .i64 a24] κ (bB a0 a1 a2 a3 a4 a5 a6 a7 a8 a9 a10 a11 a12 a13 a14 a15 a16 a17 a18 a19 a20 a21 a22 a23 a24 (K0 κ)):=aw (C:=C R ay bT) (fn:=Tryd.f28) cy (aj tab ht) (by kernel_rfl) (by kernel_rfl) (by rw [k];rfl)
end bB
namespace ae
abbrev K0 {R:Type} (κ : KT R):Q0 R:=fun r0 r1 r2 r3 r4 r5 r6 r7 r8 r9 r10 r11 r12 r13 r14 r15 r16 r17 r18 r19 r20 r21 r22 r23=>κ [.tup [],.vp 49 [.str r0,.int .i64 r1],.vp 31 [.str r2,.str r3,.str r4,.ro 95 r5 true,.bool r6,.str r7,.bool r8,.str r9,.bool r10,.str r11,.bool r12,.str r13,.ro 95 r14 true,.ro 9 r15 true,.bool r16,.str r17,.int .i64 r18,.int .i64 r19,.int .i64 r20,.int .i64 r21,.int .i64 r22,.ro 31 r23 true]]
abbrev K1 {R:Type} (κ : KT R):Q1 R:=fun r0 r1 r2 r3 r4 r5 r6 r7 r8 r9 r10 r11 r12 r13 r14 r15 r16 r17 r18 r19 r20 r21 r22=>κ [.tup [],.vp 49 [.str r0,.int .i64 r1],.vp 31 [.str r2,.str r3,.str r4,.nil,.bool r5,.str r6,.bool r7,.str r8,.bool r9,.str r10,.bool r11,.str r12,.ro 95 r13 true,.ro 9 r14 true,.bool r15,.str r16,.int .i64 r17,.int .i64 r18,.int .i64 r19,.int .i64 r20,.int .i64 r21,.ro 31 r22 true]]
section
variable (R:Type) (c1:aA.F R) (c2:az.F R) (c3:bp.F R) (c4:af.F R) (c5:bB.F R) (c6:ay.F R) (c7:ae.F R)
def Γ (g:Nat) (xs:List SV) (κ : KT R):Option R :=
 match g with
 | 15=>(match xs with
  | [.vp 49 [.str a0,.int .i64 a1],.agg [.int .i64 a2,.int .i64 a3],.bool a4]=>c2 a0 a1 a2 a3 a4 (az.K0 κ)
  | _=>none)
 | 16=>(match xs with
  | [.vp 49 [.str a0,.int .i64 a1],.vp 31 [.str a2,.str a3,.str a4,.ro 95 a5 true,.bool a6,.str a7,.bool a8,.str a9,.bool a10,.str a11,.bool a12,.str a13,.ro 95 a14 true,.ro 9 a15 true,.bool a16,.str a17,.int .i64 a18,.int .i64 a19,.int .i64 a20,.int .i64 a21,.int .i64 a22,.nil],.int .i64 a23,.bool a24]=>c7 a0 a1 a2 a3 a4 a5 a6 a7 a8 a9 a10 a11 a12 a13 a14 a15 a16 a17 a18 a19 a20 a21 a22 a23 a24 (K0 κ) (K1 κ)
  | _=>none)
 | 21=>(match xs with
  | [.vp 31 [.str a0,.str a1,.str a2,.ro 95 a3 true,.bool a4,.str a5,.bool a6,.str a7,.bool a8,.str a9,.bool a10,.str a11,.ro 95 a12 true,.ro 9 a13 true,.bool a14,.str a15,.int .i64 a16,.int .i64 a17,.int .i64 a18,.int .i64 a19,.int .i64 a20,.ro 31 a21 true]]=>c4 a0 a1 a2 a3 a4 a5 a6 a7 a8 a9 a10 a11 a12 a13 a14 a15 a16 a17 a18 a19 a20 a21 (af.K0 κ)
  | [.vp 31 [.str a0,.str a1,.str a2,.ro 95 a3 true,.bool a4,.str a5,.bool a6,.str a7,.bool a8,.str a9,.bool a10,.str a11,.ro 95 a12 true,.ro 9 a13 true,.bool a14,.str a15,.int .i64 a16,.int .i64 a17,.int .i64 a18,.int .i64 a19,.int .i64 a20,.fr 31 a21 true]]=>c6 a0 a1 a2 a3 a4 a5 a6 a7 a8 a9 a10 a11 a12 a13 a14 a15 a16 a17 a18 a19 a20 a21 (ay.K0 κ)
  | _=>none)
 | 27=>(match xs with
  | [.vp 49 [.str a0,.int .i64 a1],.vp 31 [.str a2,.str a3,.str a4,.ro 95 a5 true,.bool a6,.str a7,.bool a8,.str a9,.bool a10,.str a11,.bool a12,.str a13,.ro 95 a14 true,.ro 9 a15 true,.bool a16,.str a17,.int .i64 a18,.int .i64 a19,.int .i64 a20,.int .i64 a21,.int .i64 a22,.nil]]=>c1 a0 a1 a2 a3 a4 a5 a6 a7 a8 a9 a10 a11 a12 a13 a14 a15 a16 a17 a18 a19 a20 a21 a22 (aA.K0 κ) (aA.K1 κ)
  | _=>none)
 | 28=>(match xs with
  | [.vp 31 [.str a0,.str a1,.str a2,.ro 95 a3 true,.bool a4,.str a5,.bool a6,.str a7,.bool a8,.str a9,.bool a10,.str a11,.ro 95 a12 true,.ro 9 a13 true,.bool a14,.str a15,.int .i64 a16,.int .i64 a17,.int .i64 a18,.int .i64 a19,.int .i64 a20,.fr 31 a21 true],.int .i64 a22,.bool a23,.int .i64 a24]=>c5 a0 a1 a2 a3 a4 a5 a6 a7 a8 a9 a10 a11 a12 a13 a14 a15 a16 a17 a18 a19 a20 a21 a22 a23 a24 (bB.K0 κ)
  | _=>none)
 | 29=>(match xs with
  | [.str a0,.str a1]=>c3 a0 a1 (bp.K0 κ)
  | _=>none)
 | _=>none
def h (n:Nat):Option (List (Nat × List (Nat × Nat))) :=
 match n with
 | 2=>some [(0,[(0,0)]),(1,[(0,0)]),(2,[(0,0)]),(3,[(0,0)]),(8,[(0,30)])]
 | 5=>some [(0,[(0,0)]),(1,[(21,33)]),(2,[(0,0)]),(3,[(0,0)]),(40,[(0,0)]),(41,[(0,0)]),(42,[(0,0)])]
 | 8=>some [(0,[(0,0)]),(1,[(0,0)]),(2,[(0,0)]),(3,[(0,0)]),(9,[(0,0)]),(11,[(0,0)]),(40,[(0,0)]),(41,[(0,0)]),(42,[(0,0)])]
 | 14=>some [(0,[(0,0)]),(1,[(0,0)]),(2,[(0,0)]),(3,[(0,0)]),(40,[(0,0)]),(41,[(0,0)]),(42,[(0,0)])]
 | 15=>some [(0,[(0,0)]),(1,[(3,97),(3,1),(12,97),(12,1),(13,11),(13,1),(21,33),(21,1)])]
 | _=>none
def C:Cfg R:=⟨al bN,Γ R c1 c2 c3 c4 c5 c6 c7,fun _=>false,h,0,fun _=>false⟩
noncomputable def S:=S0 (C R c1 c2 c3 c4 c5 c6 c7) Tryd.f16 2
noncomputable def G:=G0 (C R c1 c2 c3 c4 c5 c6 c7) Tryd.f16 2
def s2:=fun x0 x1 x2 x3 x4 x5 x6 x7 x8 x9 x10 x11 x12 x13 x14 x15 x16 x17 x18 x19 x20 x21 x22 x23 x24 x25=>(⟨eJ 156 [(0,.ptr 0 0),(1,.ptr 1 0),(2,.int .i64 x0),(3,.bool x1),(8,.own 576)],[(1,.var 31 [.str x2,.str x3,.str x4,.ro 95 x5 true,.bool x6,.str x7,.bool x8,.str x9,.bool x10,.str x11,.bool x12,.str x13,.ro 95 x14 true,.ro 9 x15 true,.bool x16,.str x17,.int .i64 x18,.int .i64 x19,.int .i64 x20,.int .i64 x21,.int .i64 x22,.nil]),(0,.var 49 [.str x23,.int .i64 x24]),(576,.row 28 x25 true)],eH⟩:St)
def s5:=fun x0 x1 x2 x3 x4 x5 x6 x7 x8 x9 x10 x11 x12 x13 x14 x15 x16 x17 x18 x19 x20 x21 x22 x23 x24 x25 x26 x27 x28=>(⟨eJ 156 [(0,.ptr 0 0),(1,.ptr 1 0),(2,.int .i64 x0),(3,.bool x1),(40,.own 2624),(41,.int .i64 x2),(42,.int .i64 x3)],[(1,.var 31 [.str x4,.str x5,.str x6,.ro 95 x7 true,.bool x8,.str x9,.bool x10,.str x11,.bool x12,.str x13,.bool x14,.str x15,.ro 95 x16 true,.ro 9 x17 true,.bool x18,.str x19,.int .i64 x20,.int .i64 x21,.int .i64 x22,.int .i64 x23,.int .i64 x24,.own 149]),(0,.var 49 [.str x25,.int .i64 x26]),(149,.row 31 x27 true),(2624,.row 28 x28 true)],eH⟩:St)
def s8:=fun x0 x1 x2 x3 x4 x5 x6 x7 x8 x9 x10 x11 x12 x13 x14 x15 x16 x17 x18 x19 x20 x21 x22 x23 x24 x25 x26 x27 x28 x29 x30 x31 x32 x33 x34 x35 x36 x37 x38 x39 x40 x41 x42 x43 x44 x45 x46 x47 x48 x49 x50=>(⟨eJ 156 [(0,.ptr 0 0),(1,.ptr 1 0),(2,.int .i64 x0),(3,.bool x1),(9,.int .i64 x2),(11,.ptr 831 0),(40,.own 2624),(41,.int .i64 x3),(42,.int .i64 x4)],[(1,.var 31 [.str x5,.str x6,.str x7,.ro 95 x8 true,.bool x9,.str x10,.bool x11,.str x12,.bool x13,.str x14,.bool x15,.str x16,.ro 95 x17 true,.ro 9 x18 true,.bool x19,.str x20,.int .i64 x21,.int .i64 x22,.int .i64 x23,.int .i64 x24,.int .i64 x25,.own 149]),(0,.var 49 [.str x26,.int .i64 x27]),(149,.row 31 x28 true),(831,.var 31 [.str x29,.str x30,.str x31,.ro 95 x32 true,.bool x33,.str x34,.bool x35,.str x36,.bool x37,.str x38,.bool x39,.str x40,.ro 95 x41 true,.ro 9 x42 true,.bool x43,.str x44,.int .i64 x45,.int .i64 x46,.int .i64 x47,.int .i64 x48,.int .i64 x49,.nil]),(2624,.row 28 x50 true)],eH⟩:St)
def zT:=fun x0 x1 x2 x3 x4 x5 x6 x7 x8 x9 x10 x11 x12 x13 x14 x15 x16 x17 x18 x19 x20 x21 x22 x23=>(⟨eJ 156 [(0,.ptr 0 0),(1,.ptr 1 0)],[(1,.var 31 [.str x0,.str x1,.str x2,.ro 95 x3 true,.bool x4,.str x5,.bool x6,.str x7,.bool x8,.str x9,.bool x10,.str x11,.ro 95 x12 true,.ro 9 x13 true,.bool x14,.str x15,.int .i64 x16,.int .i64 x17,.int .i64 x18,.int .i64 x19,.int .i64 x20,.ro 31 x21 true]),(0,.var 49 [.str x22,.int .i64 x23])],eH⟩:St)
noncomputable abbrev q2 {R:Type} (J:JT R):J2 R:=fun x0 x1 x2 x3 x4 x5 x6 x7 x8 x9 x10 x11 x12 x13 x14 x15 x16 x17 x18 x19 x20 x21 x22 x23 x24 x25=>J (placeOf Tryd.f16 2) (s2 x0 x1 x2 x3 x4 x5 x6 x7 x8 x9 x10 x11 x12 x13 x14 x15 x16 x17 x18 x19 x20 x21 x22 x23 x24 x25)
noncomputable abbrev q5 {R:Type} (J:JT R):J5 R:=fun x0 x1 x2 x3 x4 x5 x6 x7 x8 x9 x10 x11 x12 x13 x14 x15 x16 x17 x18 x19 x20 x21 x22 x23 x24 x25 x26 x27 x28=>J (placeOf Tryd.f16 5) (s5 x0 x1 x2 x3 x4 x5 x6 x7 x8 x9 x10 x11 x12 x13 x14 x15 x16 x17 x18 x19 x20 x21 x22 x23 x24 x25 x26 x27 x28)
noncomputable abbrev q8 {R:Type} (J:JT R):J8 R:=fun x0 x1 x2 x3 x4 x5 x6 x7 x8 x9 x10 x11 x12 x13 x14 x15 x16 x17 x18 x19 x20 x21 x22 x23 x24 x25 x26 x27 x28 x29 x30 x31 x32 x33 x34 x35 x36 x37 x38 x39 x40 x41 x42 x43 x44 x45 x46 x47 x48 x49 x50=>J (placeOf Tryd.f16 8) (s8 x0 x1 x2 x3 x4 x5 x6 x7 x8 x9 x10 x11 x12 x13 x14 x15 x16 x17 x18 x19 x20 x21 x22 x23 x24 x25 x26 x27 x28 x29 x30 x31 x32 x33 x34 x35 x36 x37 x38 x39 x40 x41 x42 x43 x44 x45 x46 x47 x48 x49 x50)
noncomputable abbrev EG {R:Type} (J:JT R):Dr R:=fun x0 x1 x2 x3 x4 x5 x6 x7 x8 x9 x10 x11 x12 x13 x14 x15 x16 x17 x18 x19 x20 x21 x22 x23 x24 x25 x26 x27 x28=>J (placeOf Tryd.f16 14) (DH x0 x1 x2 x3 x4 x5 x6 x7 x8 x9 x10 x11 x12 x13 x14 x15 x16 x17 x18 x19 x20 x21 x22 x23 x24 x25 x26 x27 x28)
noncomputable abbrev tm {R:Type} (J:JT R):my R:=fun x0 x1 x2 x3 x4 x5 x6 x7 x8 x9 x10 x11 x12 x13 x14 x15 x16 x17 x18 x19 x20 x21 x22 x23=>J (placeOf Tryd.f16 15) (zT x0 x1 x2 x3 x4 x5 x6 x7 x8 x9 x10 x11 x12 x13 x14 x15 x16 x17 x18 x19 x20 x21 x22 x23)
theorem k2 (J:JT R) (κ : KT R) (x0 x1 x2 x3 x4 x5 x6 x7 x8 x9 x10 x11 x12 x13 x14 x15 x16 x17 x18 x19 x20 x21 x22 x23 x24 x25:_):S R c1 c2 c3 c4 c5 c6 c7 κ J 2 (s2 x0 x1 x2 x3 x4 x5 x6 x7 x8 x9 x10 x11 x12 x13 x14 x15 x16 x17 x18 x19 x20 x21 x22 x23 x24 x25)=t2 (q5 J) (tm J) x0 x1 x2 x3 x4 x5 x6 x7 x8 x9 x10 x11 x12 x13 x14 x15 x16 x17 x18 x19 x20 x21 x22 x23 x24 x25:=by kernel_rfl
theorem k5 (J:JT R) (κ : KT R) (x0 x1 x2 x3 x4 x5 x6 x7 x8 x9 x10 x11 x12 x13 x14 x15 x16 x17 x18 x19 x20 x21 x22 x23 x24 x25 x26 x27 x28:_):S R c1 c2 c3 c4 c5 c6 c7 κ J 5 (s5 x0 x1 x2 x3 x4 x5 x6 x7 x8 x9 x10 x11 x12 x13 x14 x15 x16 x17 x18 x19 x20 x21 x22 x23 x24 x25 x26 x27 x28)=t5 c2 (q8 J) (tm J) x0 x1 x2 x3 x4 x5 x6 x7 x8 x9 x10 x11 x12 x13 x14 x15 x16 x17 x18 x19 x20 x21 x22 x23 x24 x25 x26 x27 x28:=by kernel_rfl
theorem k8 (J:JT R) (κ : KT R) (x0 x1 x2 x3 x4 x5 x6 x7 x8 x9 x10 x11 x12 x13 x14 x15 x16 x17 x18 x19 x20 x21 x22 x23 x24 x25 x26 x27 x28 x29 x30 x31 x32 x33 x34 x35 x36 x37 x38 x39 x40 x41 x42 x43 x44 x45 x46 x47 x48 x49 x50:_):S R c1 c2 c3 c4 c5 c6 c7 κ J 8 (s8 x0 x1 x2 x3 x4 x5 x6 x7 x8 x9 x10 x11 x12 x13 x14 x15 x16 x17 x18 x19 x20 x21 x22 x23 x24 x25 x26 x27 x28 x29 x30 x31 x32 x33 x34 x35 x36 x37 x38 x39 x40 x41 x42 x43 x44 x45 x46 x47 x48 x49 x50)=t8 c5 c6 c7 (EG J) x0 x1 x2 x3 x4 x5 x6 x7 x8 x9 x10 x11 x12 x13 x14 x15 x16 x17 x18 x19 x20 x21 x22 x23 x24 x25 x26 x27 x28 x29 x30 x31 x32 x33 x34 x35 x36 x37 x38 x39 x40 x41 x42 x43 x44 x45 x46 x47 x48 x49 x50:=by kernel_rfl
theorem FN (J:JT R) (κ : KT R) (x0 x1 x2 x3 x4 x5 x6 x7 x8 x9 x10 x11 x12 x13 x14 x15 x16 x17 x18 x19 x20 x21 x22 x23 x24 x25 x26 x27 x28:_):S R c1 c2 c3 c4 c5 c6 c7 κ J 14 (DH x0 x1 x2 x3 x4 x5 x6 x7 x8 x9 x10 x11 x12 x13 x14 x15 x16 x17 x18 x19 x20 x21 x22 x23 x24 x25 x26 x27 x28)=t14 (q5 J) x0 x1 x2 x3 x4 x5 x6 x7 x8 x9 x10 x11 x12 x13 x14 x15 x16 x17 x18 x19 x20 x21 x22 x23 x24 x25 x26 x27 x28:=by kernel_rfl
theorem CQ (J:JT R) (κ : KT R) (x0 x1 x2 x3 x4 x5 x6 x7 x8 x9 x10 x11 x12 x13 x14 x15 x16 x17 x18 x19 x20 x21 x22 x23:_):S R c1 c2 c3 c4 c5 c6 c7 κ J 15 (zT x0 x1 x2 x3 x4 x5 x6 x7 x8 x9 x10 x11 x12 x13 x14 x15 x16 x17 x18 x19 x20 x21 x22 x23)=t15 c3 c4 (K0 κ) (K1 κ) x0 x1 x2 x3 x4 x5 x6 x7 x8 x9 x10 x11 x12 x13 x14 x15 x16 x17 x18 x19 x20 x21 x22 x23:=by kernel_rfl
theorem k (κ : KT R) (k:Nat) (a0 a1 a2 a3 a4 a5 a6 a7 a8 a9 a10 a11 a12 a13 a14 a15 a16 a17 a18 a19 a20 a21 a22 a23 a24:_):cv (C R c1 c2 c3 c4 c5 c6 c7) Tryd.f16 10000 k [.vp 49 [.str a0,.int .i64 a1],.vp 31 [.str a2,.str a3,.str a4,.ro 95 a5 true,.bool a6,.str a7,.bool a8,.str a9,.bool a10,.str a11,.bool a12,.str a13,.ro 95 a14 true,.ro 9 a15 true,.bool a16,.str a17,.int .i64 a18,.int .i64 a19,.int .i64 a20,.int .i64 a21,.int .i64 a22,.nil],.int .i64 a23,.bool a24] κ = ae.e c1 c2 c3 c4 c5 c6 c7 a0 a1 a2 a3 a4 a5 a6 a7 a8 a9 a10 a11 a12 a13 a14 a15 a16 a17 a18 a19 a20 a21 a22 a23 a24 (q2 (G R c1 c2 c3 c4 c5 c6 c7 κ k)) (q5 (G R c1 c2 c3 c4 c5 c6 c7 κ k)) (q8 (G R c1 c2 c3 c4 c5 c6 c7 κ k)) (EG (G R c1 c2 c3 c4 c5 c6 c7 κ k)) (tm (G R c1 c2 c3 c4 c5 c6 c7 κ k)) (K0 κ) (K1 κ):=by kernel_rfl
theorem g15 (κ : KT R):∀ (f:Nat),tm (G R c1 c2 c3 c4 c5 c6 c7 κ f)=je c1 c2 c3 c4 c5 c6 c7 (K0 κ) (K1 κ) f
 | 0=>rfl
 | f+1=>by
  funext x0 x1 x2 x3 x4 x5 x6 x7 x8 x9 x10 x11 x12 x13 x14 x15 x16 x17 x18 x19 x20 x21 x22 x23
  show S R c1 c2 c3 c4 c5 c6 c7 κ (G R c1 c2 c3 c4 c5 c6 c7 κ f) 15 _=_
  rw [CQ]
  rfl
theorem BN (κ : KT R):∀ (f:Nat),(q5 (G R c1 c2 c3 c4 c5 c6 c7 κ f)=L5 c1 c2 c3 c4 c5 c6 c7 (K0 κ) (K1 κ) f)/\(q8 (G R c1 c2 c3 c4 c5 c6 c7 κ f)=L8 c1 c2 c3 c4 c5 c6 c7 (K0 κ) (K1 κ) f)/\(EG (G R c1 c2 c3 c4 c5 c6 c7 κ f)=EA c1 c2 c3 c4 c5 c6 c7 (K0 κ) (K1 κ) f)
 | 0=>⟨rfl,rfl,rfl⟩
 | f+1=>by
  obtain ⟨ih0,ih1,ih2⟩:=BN κ f
  refine ⟨?_,?_,?_⟩
  ·funext x0 x1 x2 x3 x4 x5 x6 x7 x8 x9 x10 x11 x12 x13 x14 x15 x16 x17 x18 x19 x20 x21 x22 x23 x24 x25 x26 x27 x28
   show S R c1 c2 c3 c4 c5 c6 c7 κ (G R c1 c2 c3 c4 c5 c6 c7 κ f) 5 _=_
   rw [k5,ih1,g15 R c1 c2 c3 c4 c5 c6 c7 κ f]
   rfl
  ·funext x0 x1 x2 x3 x4 x5 x6 x7 x8 x9 x10 x11 x12 x13 x14 x15 x16 x17 x18 x19 x20 x21 x22 x23 x24 x25 x26 x27 x28 x29 x30 x31 x32 x33 x34 x35 x36 x37 x38 x39 x40 x41 x42 x43 x44 x45 x46 x47 x48 x49 x50
   show S R c1 c2 c3 c4 c5 c6 c7 κ (G R c1 c2 c3 c4 c5 c6 c7 κ f) 8 _=_
   rw [k8,ih2]
   rfl
  ·funext x0 x1 x2 x3 x4 x5 x6 x7 x8 x9 x10 x11 x12 x13 x14 x15 x16 x17 x18 x19 x20 x21 x22 x23 x24 x25 x26 x27 x28
   show S R c1 c2 c3 c4 c5 c6 c7 κ (G R c1 c2 c3 c4 c5 c6 c7 κ f) 14 _=_
   rw [FN,ih0]
   rfl
theorem g5 (κ : KT R) (f:Nat):q5 (G R c1 c2 c3 c4 c5 c6 c7 κ f)=L5 c1 c2 c3 c4 c5 c6 c7 (K0 κ) (K1 κ) f:=(BN R c1 c2 c3 c4 c5 c6 c7 κ f).1
theorem g8 (κ : KT R) (f:Nat):q8 (G R c1 c2 c3 c4 c5 c6 c7 κ f)=L8 c1 c2 c3 c4 c5 c6 c7 (K0 κ) (K1 κ) f:=(BN R c1 c2 c3 c4 c5 c6 c7 κ f).2.1
theorem g14 (κ : KT R) (f:Nat):EG (G R c1 c2 c3 c4 c5 c6 c7 κ f)=EA c1 c2 c3 c4 c5 c6 c7 (K0 κ) (K1 κ) f:=(BN R c1 c2 c3 c4 c5 c6 c7 κ f).2.2
theorem g2 (κ : KT R):∀ (f:Nat),q2 (G R c1 c2 c3 c4 c5 c6 c7 κ f)=L2 c1 c2 c3 c4 c5 c6 c7 (K0 κ) (K1 κ) f
 | 0=>rfl
 | f+1=>by
  funext x0 x1 x2 x3 x4 x5 x6 x7 x8 x9 x10 x11 x12 x13 x14 x15 x16 x17 x18 x19 x20 x21 x22 x23 x24 x25
  show S R c1 c2 c3 c4 c5 c6 c7 κ (G R c1 c2 c3 c4 c5 c6 c7 κ f) 2 _=_
  rw [k2,g5 R c1 c2 c3 c4 c5 c6 c7 κ f,g15 R c1 c2 c3 c4 c5 c6 c7 κ f]
  rfl
end
theorem aj {R:Type} (tab:cb) (ht:aL tab) (n:Nat) (ih:∀ (a0 a1 a2 a3 a4 a5 a6 a7 a8 a9 a10 a11 a12 a13 a14 a15 a16 a17 a18 a19 a20 a21 a22 a23 a24:_) (κ : KT R),aa Tryd.prog (al bN) tab 16 [.vp 49 [.str a0,.int .i64 a1],.vp 31 [.str a2,.str a3,.str a4,.ro 95 a5 true,.bool a6,.str a7,.bool a8,.str a9,.bool a10,.str a11,.bool a12,.str a13,.ro 95 a14 true,.ro 9 a15 true,.bool a16,.str a17,.int .i64 a18,.int .i64 a19,.int .i64 a20,.int .i64 a21,.int .i64 a22,.nil],.int .i64 a23,.bool a24] κ (ae.R n a0 a1 a2 a3 a4 a5 a6 a7 a8 a9 a10 a11 a12 a13 a14 a15 a16 a17 a18 a19 a20 a21 a22 a23 a24 (K0 κ) (K1 κ))) (g:Nat):bR (R:=R) Tryd.prog (al bN) tab g ((C R aA az bp af bB ay (ae.R n)).call g):=by
 refine aY fun xs κ => ?_
 show aa _ _ _ g xs κ (Γ R aA az bp af bB ay (ae.R n) g xs κ)
 unfold Γ
 split
 ·split
  ·exact az.aX tab ht _ _ _ _ _ κ
  ·exact aa.none
 ·split
  ·exact ih _ _ _ _ _ _ _ _ _ _ _ _ _ _ _ _ _ _ _ _ _ _ _ _ _ κ
  ·exact aa.none
 ·split
  ·exact af.aX tab ht _ _ _ _ _ _ _ _ _ _ _ _ _ _ _ _ _ _ _ _ _ _ κ
  ·exact ay.aX tab ht _ _ _ _ _ _ _ _ _ _ _ _ _ _ _ _ _ _ _ _ _ _ κ
  ·exact aa.none
 ·split
  ·exact aA.aX tab ht _ _ _ _ _ _ _ _ _ _ _ _ _ _ _ _ _ _ _ _ _ _ _ κ
  ·exact aa.none
 ·split
  ·exact bB.aX tab ht _ _ _ _ _ _ _ _ _ _ _ _ _ _ _ _ _ _ _ _ _ _ _ _ _ κ
  ·exact aa.none
 ·split
  ·exact bp.aX tab ht _ _ κ
  ·exact aa.none
 ·exact aa.none
theorem mX {R:Type} (tab:cb) (ht:aL tab):∀ (n:Nat) (a0 a1 a2 a3 a4 a5 a6 a7 a8 a9 a10 a11 a12 a13 a14 a15 a16 a17 a18 a19 a20 a21 a22 a23 a24:_) (κ : KT R),aa Tryd.prog (al bN) tab 16 [.vp 49 [.str a0,.int .i64 a1],.vp 31 [.str a2,.str a3,.str a4,.ro 95 a5 true,.bool a6,.str a7,.bool a8,.str a9,.bool a10,.str a11,.bool a12,.str a13,.ro 95 a14 true,.ro 9 a15 true,.bool a16,.str a17,.int .i64 a18,.int .i64 a19,.int .i64 a20,.int .i64 a21,.int .i64 a22,.nil],.int .i64 a23,.bool a24] κ (ae.R n a0 a1 a2 a3 a4 a5 a6 a7 a8 a9 a10 a11 a12 a13 a14 a15 a16 a17 a18 a19 a20 a21 a22 a23 a24 (K0 κ) (K1 κ))
 | 0,_,_,_,_,_,_,_,_,_,_,_,_,_,_,_,_,_,_,_,_,_,_,_,_,_,_=>aa.none
 | n+1,a0,a1,a2,a3,a4,a5,a6,a7,a8,a9,a10,a11,a12,a13,a14,a15,a16,a17,a18,a19,a20,a21,a22,a23,a24,κ => aw (C:=C R aA az bp af bB ay (ae.R n)) (fn:=Tryd.f16) cy (aj tab ht n (mX tab ht n)) (by kernel_rfl) (by kernel_rfl) (show _=B aA az bp af bB ay (ae.R n) a0 a1 a2 a3 a4 a5 a6 a7 a8 a9 a10 a11 a12 a13 a14 a15 a16 a17 a18 a19 a20 a21 a22 a23 a24 (K0 κ) (K1 κ) by rw [k];rw [g2 R aA az bp af bB ay (ae.R n) κ aH,g5 R aA az bp af bB ay (ae.R n) κ aH,g8 R aA az bp af bB ay (ae.R n) κ aH,g14 R aA az bp af bB ay (ae.R n) κ aH,g15 R aA az bp af bB ay (ae.R n) κ aH];rfl)
theorem aX {R:Type} (tab:cb) (ht:aL tab) (a0 a1 a2 a3 a4 a5 a6 a7 a8 a9 a10 a11 a12 a13 a14 a15 a16 a17 a18 a19 a20 a21 a22 a23 a24:_) (κ : KT R):aa Tryd.prog (al bN) tab 16 [.vp 49 [.str a0,.int .i64 a1],.vp 31 [.str a2,.str a3,.str a4,.ro 95 a5 true,.bool a6,.str a7,.bool a8,.str a9,.bool a10,.str a11,.bool a12,.str a13,.ro 95 a14 true,.ro 9 a15 true,.bool a16,.str a17,.int .i64 a18,.int .i64 a19,.int .i64 a20,.int .i64 a21,.int .i64 a22,.nil],.int .i64 a23,.bool a24] κ (ae a0 a1 a2 a3 a4 a5 a6 a7 a8 a9 a10 a11 a12 a13 a14 a15 a16 a17 a18 a19 a20 a21 a22 a23 a24 (K0 κ) (K1 κ)):=mX tab ht aH a0 a1 a2 a3 a4 a5 a6 a7 a8 a9 a10 a11 a12 a13 a14 a15 a16 a17 a18 a19 a20 a21 a22 a23 a24 κ
end ae
namespace aG
abbrev K0 {R:Type} (κ : KT R):Q0 R:=fun r0 r1 r2 r3 r4 r5 r6 r7 r8 r9 r10 r11 r12 r13 r14 r15 r16 r17 r18 r19 r20 r21=>κ [.agg [.str r0,.str r1,.str r2,.ro 95 r3 true,.bool r4,.str r5,.bool r6,.str r7,.bool r8,.str r9,.bool r10,.str r11,.ro 95 r12 true,.ro 9 r13 true,.bool r14,.str r15,.int .i64 r16,.int .i64 r17,.int .i64 r18,.int .i64 r19,.int .i64 r20,.ro 31 r21 true]]
section
variable (R:Type) (c1:az.F R) (c2:ae.F R)
def Γ (g:Nat) (xs:List SV) (κ : KT R):Option R :=
 match g with
 | 15=>(match xs with
  | [.vp 49 [.str a0,.int .i64 a1],.agg [.int .i64 a2,.int .i64 a3],.bool a4]=>c1 a0 a1 a2 a3 a4 (az.K0 κ)
  | _=>none)
 | 16=>(match xs with
  | [.vp 49 [.str a0,.int .i64 a1],.vp 31 [.str a2,.str a3,.str a4,.ro 95 a5 true,.bool a6,.str a7,.bool a8,.str a9,.bool a10,.str a11,.bool a12,.str a13,.ro 95 a14 true,.ro 9 a15 true,.bool a16,.str a17,.int .i64 a18,.int .i64 a19,.int .i64 a20,.int .i64 a21,.int .i64 a22,.nil],.int .i64 a23,.bool a24]=>c2 a0 a1 a2 a3 a4 a5 a6 a7 a8 a9 a10 a11 a12 a13 a14 a15 a16 a17 a18 a19 a20 a21 a22 a23 a24 (ae.K0 κ) (ae.K1 κ)
  | _=>none)
 | _=>none
def h (n:Nat):Option (List (Nat × List (Nat × Nat))) :=
 match n with
 | 4=>some [(2,[(0,0)]),(4,[(3,97),(3,1),(12,97),(12,1),(13,11),(13,1),(21,33),(21,1)])]
 | _=>none
def C:Cfg R:=⟨al bN,Γ R c1 c2,fun _=>false,h,0,fun _=>false⟩
noncomputable def S:=S0 (C R c1 c2) Tryd.f7 0
noncomputable def G:=G0 (C R c1 c2) Tryd.f7 0
def s4:=fun x0 x1 x2 x3 x4 x5 x6 x7 x8 x9 x10 x11 x12 x13 x14 x15 x16 x17 x18 x19 x20 x21 x22 x23 x24 x25 x26 x27 x28 x29 x30 x31 x32 x33 x34 x35 x36 x37 x38 x39=>(⟨eJ 16 [(2,.ptr 255 0),(4,.ptr 383 0)],[(255,.var 31 [.str x0,.str x1,.str x2,.nil,.bool x3,.str x4,.bool x5,.str x6,.bool x7,.str x8,.bool x9,.str x10,.nil,.nil,.bool x11,.str x12,.int .i64 x13,.int .i64 x14,.int .i64 x15,.int .i64 x16,.int .i64 x17,.nil]),(383,.var 31 [.str x18,.str x19,.str x20,.ro 95 x21 true,.bool x22,.str x23,.bool x24,.str x25,.bool x26,.str x27,.bool x28,.str x29,.ro 95 x30 true,.ro 9 x31 true,.bool x32,.str x33,.int .i64 x34,.int .i64 x35,.int .i64 x36,.int .i64 x37,.int .i64 x38,.ro 31 x39 true])],eH⟩:St)
noncomputable abbrev q4 {R:Type} (J:JT R):J4 R:=fun x0 x1 x2 x3 x4 x5 x6 x7 x8 x9 x10 x11 x12 x13 x14 x15 x16 x17 x18 x19 x20 x21 x22 x23 x24 x25 x26 x27 x28 x29 x30 x31 x32 x33 x34 x35 x36 x37 x38 x39=>J (placeOf Tryd.f7 4) (s4 x0 x1 x2 x3 x4 x5 x6 x7 x8 x9 x10 x11 x12 x13 x14 x15 x16 x17 x18 x19 x20 x21 x22 x23 x24 x25 x26 x27 x28 x29 x30 x31 x32 x33 x34 x35 x36 x37 x38 x39)
theorem k4 (J:JT R) (κ : KT R) (x0 x1 x2 x3 x4 x5 x6 x7 x8 x9 x10 x11 x12 x13 x14 x15 x16 x17 x18 x19 x20 x21 x22 x23 x24 x25 x26 x27 x28 x29 x30 x31 x32 x33 x34 x35 x36 x37 x38 x39:_):S R c1 c2 κ J 4 (s4 x0 x1 x2 x3 x4 x5 x6 x7 x8 x9 x10 x11 x12 x13 x14 x15 x16 x17 x18 x19 x20 x21 x22 x23 x24 x25 x26 x27 x28 x29 x30 x31 x32 x33 x34 x35 x36 x37 x38 x39)=t4 (K0 κ) x0 x1 x2 x3 x4 x5 x6 x7 x8 x9 x10 x11 x12 x13 x14 x15 x16 x17 x18 x19 x20 x21 x22 x23 x24 x25 x26 x27 x28 x29 x30 x31 x32 x33 x34 x35 x36 x37 x38 x39:=by kernel_rfl
theorem k (κ : KT R) (k:Nat) (a0:_):cv (C R c1 c2) Tryd.f7 10000 k [.str a0] κ = aG.e c1 c2 a0 (q4 (G R c1 c2 κ k)) (K0 κ):=by kernel_rfl
theorem g4 (κ : KT R):∀ (f:Nat),q4 (G R c1 c2 κ f)=L4 c1 c2 (K0 κ) f
 | 0=>rfl
 | f+1=>by
  funext x0 x1 x2 x3 x4 x5 x6 x7 x8 x9 x10 x11 x12 x13 x14 x15 x16 x17 x18 x19 x20 x21 x22 x23 x24 x25 x26 x27 x28 x29 x30 x31 x32 x33 x34 x35 x36 x37 x38 x39
  show S R c1 c2 κ (G R c1 c2 κ f) 4 _=_
  rw [k4]
  rfl
end
theorem aj {R:Type} (tab:cb) (ht:aL tab) (g:Nat):bR (R:=R) Tryd.prog (al bN) tab g ((C R az ae).call g):=by
 refine aY fun xs κ => ?_
 show aa _ _ _ g xs κ (Γ R az ae g xs κ)
 unfold Γ
 split
 ·split
  ·exact az.aX tab ht _ _ _ _ _ κ
  ·exact aa.none
 ·split
  ·exact ae.aX tab ht _ _ _ _ _ _ _ _ _ _ _ _ _ _ _ _ _ _ _ _ _ _ _ _ _ κ
  ·exact aa.none
 ·exact aa.none
theorem aX {R:Type} (tab:cb) (ht:aL tab) (a0:_) (κ : KT R):aa Tryd.prog (al bN) tab 7 [.str a0] κ (aG a0 (K0 κ)):=aw (C:=C R az ae) (fn:=Tryd.f7) cy (aj tab ht) (by kernel_rfl) (by kernel_rfl) (by rw [k];rw [g4 R az ae κ aH];rfl)
end aG
namespace cD
abbrev K0 {R:Type} (κ : KT R):BA->Option R:=fun r0=>κ [.str r0]
section
variable (R:Type)
def Γ (g:Nat) (xs:List SV) (κ : KT R):Option R :=
 match g with
 | _=>none
def h (n:Nat):Option (List (Nat × List (Nat × Nat))) :=
 match n with
 | _=>none
def C:Cfg R:=⟨al bN,Γ R,fun _=>false,h,0,fun _=>false⟩
theorem k (κ : KT R) (k:Nat) (a0 a1 a2:_):cv (C R) Tryd.f10 10000 k [.str a0,.int .i64 a1,.int .i64 a2] κ = cD.e a0 a1 a2 (K0 κ):=by kernel_rfl
end
theorem aj {R:Type} (tab:cb) (ht:aL tab) (g:Nat):bR (R:=R) Tryd.prog (al bN) tab g ((C R).call g):=by
 refine aY fun xs κ => ?_
 show aa _ _ _ g xs κ (Γ R g xs κ)
 unfold Γ
 split
 ·exact aa.none
theorem aX {R:Type} (tab:cb) (ht:aL tab) (a0 a1 a2:_) (κ : KT R):aa Tryd.prog (al bN) tab 10 [.str a0,.int .i64 a1,.int .i64 a2] κ (cD a0 a1 a2 (K0 κ)):=aw (C:=C R) (fn:=Tryd.f10) cy (aj tab ht) (by kernel_rfl) (by kernel_rfl) (by rw [k];rfl)
end cD
namespace aV
abbrev K0 {R:Type} (κ : KT R):Bool->Option R:=fun r0=>κ [.bool r0]
section
variable (R:Type) (c1:aG.F R) (c2:cD.F R)
def Γ (g:Nat) (xs:List SV) (κ : KT R):Option R :=
 match g with
 | 7=>(match xs with
  | [.str a0]=>c1 a0 (aG.K0 κ)
  | _=>none)
 | 10=>(match xs with
  | [.str a0,.int .i64 a1,.int .i64 a2]=>c2 a0 a1 a2 (cD.K0 κ)
  | _=>none)
 | _=>none
def h (n:Nat):Option (List (Nat × List (Nat × Nat))) :=
 match n with
 | _=>none
def C:Cfg R:=⟨al bN,Γ R c1 c2,fun _=>false,h,0,fun _=>false⟩
theorem k (κ : KT R) (k:Nat):cv (C R c1 c2) Tryd.f6 10000 k [] κ = aV.e c1 c2 (K0 κ):=by kernel_rfl
end
theorem aj {R:Type} (tab:cb) (ht:aL tab) (g:Nat):bR (R:=R) Tryd.prog (al bN) tab g ((C R aG cD).call g):=by
 refine aY fun xs κ => ?_
 show aa _ _ _ g xs κ (Γ R aG cD g xs κ)
 unfold Γ
 split
 ·split
  ·exact aG.aX tab ht _ κ
  ·exact aa.none
 ·split
  ·exact cD.aX tab ht _ _ _ κ
  ·exact aa.none
 ·exact aa.none
theorem aX {R:Type} (tab:cb) (ht:aL tab) (κ : KT R):aa Tryd.prog (al bN) tab 6 [] κ (aV (K0 κ)):=aw (C:=C R aG cD) (fn:=Tryd.f6) cy (aj tab ht) (by kernel_rfl) (by kernel_rfl) (by rw [k];rfl)
end aV
namespace aK
abbrev K0 {R:Type} (κ : KT R):BA->Option R:=fun r0=>κ [.str r0]
section
variable (R:Type)
def Γ (g:Nat) (xs:List SV) (κ : KT R):Option R :=
 match g with
 | _=>none
def h (n:Nat):Option (List (Nat × List (Nat × Nat))) :=
 match n with
 | 3=>some [(0,[(0,0)]),(3,[(0,7)]),(4,[(0,0)])]
 | _=>none
def C:Cfg R:=⟨al bN,Γ R,fun _=>false,h,0,fun _=>false⟩
noncomputable def S:=S0 (C R) Tryd.f13 0
noncomputable def G:=G0 (C R) Tryd.f13 0
def s3:=fun x0 x1 x2=>(⟨eJ 39 [(0,.str x0),(3,.own 256),(4,.int .i64 x1)],[(256,.row 5 x2 true)],eH⟩:St)
noncomputable abbrev q3 {R:Type} (J:JT R):J3 R:=fun x0 x1 x2=>J (placeOf Tryd.f13 3) (s3 x0 x1 x2)
theorem k3 (J:JT R) (κ : KT R) (x0 x1 x2:_):S R κ J 3 (s3 x0 x1 x2)=t3 (q3 J) (K0 κ) x0 x1 x2:=by kernel_rfl
theorem k (κ : KT R) (k:Nat) (a0:_):cv (C R) Tryd.f13 10000 k [.str a0] κ = aK.e a0 (q3 (G R κ k)) (K0 κ):=by kernel_rfl
theorem g3 (κ : KT R):∀ (f:Nat),q3 (G R κ f)=L3 (K0 κ) f
 | 0=>rfl
 | f+1=>by
  funext x0 x1 x2
  show S R κ (G R κ f) 3 _=_
  rw [k3,g3 κ f]
  rfl
end
theorem aj {R:Type} (tab:cb) (ht:aL tab) (g:Nat):bR (R:=R) Tryd.prog (al bN) tab g ((C R).call g):=by
 refine aY fun xs κ => ?_
 show aa _ _ _ g xs κ (Γ R g xs κ)
 unfold Γ
 split
 ·exact aa.none
theorem aX {R:Type} (tab:cb) (ht:aL tab) (a0:_) (κ : KT R):aa Tryd.prog (al bN) tab 13 [.str a0] κ (aK a0 (K0 κ)):=aw (C:=C R) (fn:=Tryd.f13) cy (aj tab ht) (by kernel_rfl) (by kernel_rfl) (by rw [k];rw [g3 R κ aH];rfl)
end aK
namespace aP
abbrev K0 {R:Type} (κ : KT R):Bool->Option R:=fun r0=>κ [.bool r0]
section
variable (R:Type)
def Γ (g:Nat) (xs:List SV) (κ : KT R):Option R :=
 match g with
 | _=>none
def h (n:Nat):Option (List (Nat × List (Nat × Nat))) :=
 match n with
 | 2=>some [(0,[(0,0)]),(3,[(0,0)])]
 | _=>none
def C:Cfg R:=⟨al bN,Γ R,fun _=>false,h,0,fun _=>false⟩
noncomputable def S:=S0 (C R) Tryd.f14 0
noncomputable def G:=G0 (C R) Tryd.f14 0
def s2:=fun x0 x1=>(⟨eJ 28 [(0,.str x0),(3,.int .i64 x1)],[],eH⟩:St)
noncomputable abbrev q2 {R:Type} (J:JT R):BA->Int->Option R:=fun x0 x1=>J (placeOf Tryd.f14 2) (s2 x0 x1)
theorem k2 (J:JT R) (κ : KT R) (x0 x1:_):S R κ J 2 (s2 x0 x1)=t2 (q2 J) (K0 κ) x0 x1:=by kernel_rfl
theorem k (κ : KT R) (k:Nat) (a0:_):cv (C R) Tryd.f14 10000 k [.str a0] κ = aP.e a0 (q2 (G R κ k)) (K0 κ):=by kernel_rfl
theorem g2 (κ : KT R):∀ (f:Nat),q2 (G R κ f)=L2 (K0 κ) f
 | 0=>rfl
 | f+1=>by
  funext x0 x1
  show S R κ (G R κ f) 2 _=_
  rw [k2,g2 κ f]
  rfl
end
theorem aj {R:Type} (tab:cb) (ht:aL tab) (g:Nat):bR (R:=R) Tryd.prog (al bN) tab g ((C R).call g):=by
 refine aY fun xs κ => ?_
 show aa _ _ _ g xs κ (Γ R g xs κ)
 unfold Γ
 split
 ·exact aa.none
theorem aX {R:Type} (tab:cb) (ht:aL tab) (a0:_) (κ : KT R):aa Tryd.prog (al bN) tab 14 [.str a0] κ (aP a0 (K0 κ)):=aw (C:=C R) (fn:=Tryd.f14) cy (aj tab ht) (by kernel_rfl) (by kernel_rfl) (by rw [k];rw [g2 R κ aH];rfl)
end aP
namespace bX
abbrev K0 {R:Type} (κ : KT R):Int->Option R:=fun r0=>κ [.int .i64 r0]
section
variable (R:Type)
def Γ (g:Nat) (xs:List SV) (κ : KT R):Option R :=
 match g with
 | _=>none
def h (n:Nat):Option (List (Nat × List (Nat × Nat))) :=
 match n with
 | 3=>some [(0,[(0,0)]),(3,[(0,0)]),(6,[(0,0)]),(7,[(0,0)])]
 | _=>none
def C:Cfg R:=⟨al bN,Γ R,fun _=>false,h,0,fun _=>false⟩
noncomputable def S:=S0 (C R) Tryd.f31 0
noncomputable def G:=G0 (C R) Tryd.f31 0
def s3:=fun x0 x1 x2 x3=>(⟨eJ 44 [(0,.str x0),(3,.int .i64 x1),(6,.int .i64 x2),(7,.int .i64 x3)],[],eH⟩:St)
noncomputable abbrev q3 {R:Type} (J:JT R):J3 R:=fun x0 x1 x2 x3=>J (placeOf Tryd.f31 3) (s3 x0 x1 x2 x3)
theorem k3 (J:JT R) (κ : KT R) (x0 x1 x2 x3:_):S R κ J 3 (s3 x0 x1 x2 x3)=t3 (q3 J) (K0 κ) x0 x1 x2 x3:=by kernel_rfl
theorem k (κ : KT R) (k:Nat) (a0:_):cv (C R) Tryd.f31 10000 k [.str a0] κ = bX.e a0 (q3 (G R κ k)) (K0 κ):=by kernel_rfl
theorem g3 (κ : KT R):∀ (f:Nat),q3 (G R κ f)=L3 (K0 κ) f
 | 0=>rfl
 | f+1=>by
  funext x0 x1 x2 x3
  show S R κ (G R κ f) 3 _=_
  rw [k3,g3 κ f]
  rfl
end
theorem aj {R:Type} (tab:cb) (ht:aL tab) (g:Nat):bR (R:=R) Tryd.prog (al bN) tab g ((C R).call g):=by
 refine aY fun xs κ => ?_
 show aa _ _ _ g xs κ (Γ R g xs κ)
 unfold Γ
 split
 ·exact aa.none
theorem aX {R:Type} (tab:cb) (ht:aL tab) (a0:_) (κ : KT R):aa Tryd.prog (al bN) tab 31 [.str a0] κ (bX a0 (K0 κ)):=aw (C:=C R) (fn:=Tryd.f31) cy (aj tab ht) (by kernel_rfl) (by kernel_rfl) (by rw [k];rw [g3 R κ aH];rfl)
end bX
namespace bm
abbrev K0 {R:Type} (κ : KT R):Q0 R:=fun r0 r1 r2 r3 r4 r5 r6 r7 r8 r9 r10 r11 r12 r13 r14 r15 r16 r17 r18=>κ [.tup [.agg [.str r0,.str r1,.str r2,.nil,.bool r3,.str r4,.bool r5,.str r6,.bool r7,.str r8,.bool r9,.str r10,.nil,.nil,.bool r11,.str r12,.int .i64 r13,.int .i64 r14,.int .i64 r15,.int .i64 r16,.int .i64 r17,.nil],.bool r18]]
abbrev K1 {R:Type} (κ : KT R):Q1 R:=fun r0 r1 r2 r3 r4 r5 r6 r7 r8 r9 r10 r11 r12 r13 r14 r15 r16 r17 r18 r19 r20 r21 r22=>κ [.tup [.agg [.str r0,.str r1,.str r2,.ro 95 r3 true,.bool r4,.str r5,.bool r6,.str r7,.bool r8,.str r9,.bool r10,.str r11,.ro 95 r12 true,.ro 9 r13 true,.bool r14,.str r15,.int .i64 r16,.int .i64 r17,.int .i64 r18,.int .i64 r19,.int .i64 r20,.ro 31 r21 true],.bool r22]]
section
variable (R:Type) (c1:af.F R) (c2:bm.F R)
def Γ (g:Nat) (xs:List SV) (κ : KT R):Option R :=
 match g with
 | 21=>(match xs with
  | [.vp 31 [.str a0,.str a1,.str a2,.ro 95 a3 true,.bool a4,.str a5,.bool a6,.str a7,.bool a8,.str a9,.bool a10,.str a11,.ro 95 a12 true,.ro 9 a13 true,.bool a14,.str a15,.int .i64 a16,.int .i64 a17,.int .i64 a18,.int .i64 a19,.int .i64 a20,.ro 31 a21 true]]=>c1 a0 a1 a2 a3 a4 a5 a6 a7 a8 a9 a10 a11 a12 a13 a14 a15 a16 a17 a18 a19 a20 a21 (af.K0 κ)
  | _=>none)
 | 32=>(match xs with
  | [.agg [.str a0,.str a1,.str a2,.ro 95 a3 true,.bool a4,.str a5,.bool a6,.str a7,.bool a8,.str a9,.bool a10,.str a11,.ro 95 a12 true,.ro 9 a13 true,.bool a14,.str a15,.int .i64 a16,.int .i64 a17,.int .i64 a18,.int .i64 a19,.int .i64 a20,.ro 31 a21 true],.bool a22,.int .i64 a23]=>c2 a0 a1 a2 a3 a4 a5 a6 a7 a8 a9 a10 a11 a12 a13 a14 a15 a16 a17 a18 a19 a20 a21 a22 a23 (K0 κ) (K1 κ)
  | _=>none)
 | _=>none
def h (n:Nat):Option (List (Nat × List (Nat × Nat))) :=
 match n with
 | 3=>some [(1,[(0,0)]),(2,[(0,0)]),(3,[(0,0)]),(6,[(0,0)])]
 | _=>none
def C:Cfg R:=⟨al bN,Γ R c1 c2,fun _=>false,h,0,fun _=>false⟩
noncomputable def S:=S0 (C R c1 c2) Tryd.f32 0
noncomputable def G:=G0 (C R c1 c2) Tryd.f32 0
def s3:=fun x0 x1 x2 x3 x4 x5 x6 x7 x8 x9 x10 x11 x12 x13 x14 x15 x16 x17 x18 x19 x20 x21 x22 x23 x24 x25 x26 x27 x28 x29 x30 x31 x32 x33 x34 x35 x36 x37 x38 x39 x40 x41=>(⟨eJ 58 [(1,.bool x0),(2,.int .i64 x1),(3,.ptr 319 0),(6,.ptr 511 0)],[(319,.var 31 [.str x2,.str x3,.str x4,.ro 95 x5 true,.bool x6,.str x7,.bool x8,.str x9,.bool x10,.str x11,.bool x12,.str x13,.ro 95 x14 true,.ro 9 x15 true,.bool x16,.str x17,.int .i64 x18,.int .i64 x19,.int .i64 x20,.int .i64 x21,.int .i64 x22,.ro 31 x23 true]),(511,.var 31 [.str x24,.str x25,.str x26,.nil,.bool x27,.str x28,.bool x29,.str x30,.bool x31,.str x32,.bool x33,.str x34,.nil,.nil,.bool x35,.str x36,.int .i64 x37,.int .i64 x38,.int .i64 x39,.int .i64 x40,.int .i64 x41,.nil])],eH⟩:St)
noncomputable abbrev q3 {R:Type} (J:JT R):J3 R:=fun x0 x1 x2 x3 x4 x5 x6 x7 x8 x9 x10 x11 x12 x13 x14 x15 x16 x17 x18 x19 x20 x21 x22 x23 x24 x25 x26 x27 x28 x29 x30 x31 x32 x33 x34 x35 x36 x37 x38 x39 x40 x41=>J (placeOf Tryd.f32 3) (s3 x0 x1 x2 x3 x4 x5 x6 x7 x8 x9 x10 x11 x12 x13 x14 x15 x16 x17 x18 x19 x20 x21 x22 x23 x24 x25 x26 x27 x28 x29 x30 x31 x32 x33 x34 x35 x36 x37 x38 x39 x40 x41)
theorem k3 (J:JT R) (κ : KT R) (x0 x1 x2 x3 x4 x5 x6 x7 x8 x9 x10 x11 x12 x13 x14 x15 x16 x17 x18 x19 x20 x21 x22 x23 x24 x25 x26 x27 x28 x29 x30 x31 x32 x33 x34 x35 x36 x37 x38 x39 x40 x41:_):S R c1 c2 κ J 3 (s3 x0 x1 x2 x3 x4 x5 x6 x7 x8 x9 x10 x11 x12 x13 x14 x15 x16 x17 x18 x19 x20 x21 x22 x23 x24 x25 x26 x27 x28 x29 x30 x31 x32 x33 x34 x35 x36 x37 x38 x39 x40 x41)=t3 (K0 κ) (K1 κ) x0 x1 x2 x3 x4 x5 x6 x7 x8 x9 x10 x11 x12 x13 x14 x15 x16 x17 x18 x19 x20 x21 x22 x23 x24 x25 x26 x27 x28 x29 x30 x31 x32 x33 x34 x35 x36 x37 x38 x39 x40 x41:=by kernel_rfl
theorem k (κ : KT R) (k:Nat) (a0 a1 a2 a3 a4 a5 a6 a7 a8 a9 a10 a11 a12 a13 a14 a15 a16 a17 a18 a19 a20 a21 a22 a23:_):cv (C R c1 c2) Tryd.f32 10000 k [.agg [.str a0,.str a1,.str a2,.ro 95 a3 true,.bool a4,.str a5,.bool a6,.str a7,.bool a8,.str a9,.bool a10,.str a11,.ro 95 a12 true,.ro 9 a13 true,.bool a14,.str a15,.int .i64 a16,.int .i64 a17,.int .i64 a18,.int .i64 a19,.int .i64 a20,.ro 31 a21 true],.bool a22,.int .i64 a23] κ = bm.e c1 c2 a0 a1 a2 a3 a4 a5 a6 a7 a8 a9 a10 a11 a12 a13 a14 a15 a16 a17 a18 a19 a20 a21 a22 a23 (q3 (G R c1 c2 κ k)) (K0 κ) (K1 κ):=by kernel_rfl
theorem g3 (κ : KT R):∀ (f:Nat),q3 (G R c1 c2 κ f)=L3 c1 c2 (K0 κ) (K1 κ) f
 | 0=>rfl
 | f+1=>by
  funext x0 x1 x2 x3 x4 x5 x6 x7 x8 x9 x10 x11 x12 x13 x14 x15 x16 x17 x18 x19 x20 x21 x22 x23 x24 x25 x26 x27 x28 x29 x30 x31 x32 x33 x34 x35 x36 x37 x38 x39 x40 x41
  show S R c1 c2 κ (G R c1 c2 κ f) 3 _=_
  rw [k3]
  rfl
end
theorem aj {R:Type} (tab:cb) (ht:aL tab) (n:Nat) (ih:∀ (a0 a1 a2 a3 a4 a5 a6 a7 a8 a9 a10 a11 a12 a13 a14 a15 a16 a17 a18 a19 a20 a21 a22 a23:_) (κ : KT R),aa Tryd.prog (al bN) tab 32 [.agg [.str a0,.str a1,.str a2,.ro 95 a3 true,.bool a4,.str a5,.bool a6,.str a7,.bool a8,.str a9,.bool a10,.str a11,.ro 95 a12 true,.ro 9 a13 true,.bool a14,.str a15,.int .i64 a16,.int .i64 a17,.int .i64 a18,.int .i64 a19,.int .i64 a20,.ro 31 a21 true],.bool a22,.int .i64 a23] κ (bm.R n a0 a1 a2 a3 a4 a5 a6 a7 a8 a9 a10 a11 a12 a13 a14 a15 a16 a17 a18 a19 a20 a21 a22 a23 (K0 κ) (K1 κ))) (g:Nat):bR (R:=R) Tryd.prog (al bN) tab g ((C R af (bm.R n)).call g):=by
 refine aY fun xs κ => ?_
 show aa _ _ _ g xs κ (Γ R af (bm.R n) g xs κ)
 unfold Γ
 split
 ·split
  ·exact af.aX tab ht _ _ _ _ _ _ _ _ _ _ _ _ _ _ _ _ _ _ _ _ _ _ κ
  ·exact aa.none
 ·split
  ·exact ih _ _ _ _ _ _ _ _ _ _ _ _ _ _ _ _ _ _ _ _ _ _ _ _ κ
  ·exact aa.none
 ·exact aa.none
theorem mX {R:Type} (tab:cb) (ht:aL tab):∀ (n:Nat) (a0 a1 a2 a3 a4 a5 a6 a7 a8 a9 a10 a11 a12 a13 a14 a15 a16 a17 a18 a19 a20 a21 a22 a23:_) (κ : KT R),aa Tryd.prog (al bN) tab 32 [.agg [.str a0,.str a1,.str a2,.ro 95 a3 true,.bool a4,.str a5,.bool a6,.str a7,.bool a8,.str a9,.bool a10,.str a11,.ro 95 a12 true,.ro 9 a13 true,.bool a14,.str a15,.int .i64 a16,.int .i64 a17,.int .i64 a18,.int .i64 a19,.int .i64 a20,.ro 31 a21 true],.bool a22,.int .i64 a23] κ (bm.R n a0 a1 a2 a3 a4 a5 a6 a7 a8 a9 a10 a11 a12 a13 a14 a15 a16 a17 a18 a19 a20 a21 a22 a23 (K0 κ) (K1 κ))
 | 0,_,_,_,_,_,_,_,_,_,_,_,_,_,_,_,_,_,_,_,_,_,_,_,_,_=>aa.none
 | n+1,a0,a1,a2,a3,a4,a5,a6,a7,a8,a9,a10,a11,a12,a13,a14,a15,a16,a17,a18,a19,a20,a21,a22,a23,κ => aw (C:=C R af (bm.R n)) (fn:=Tryd.f32) cy (aj tab ht n (mX tab ht n)) (by kernel_rfl) (by kernel_rfl) (show _=B af (bm.R n) a0 a1 a2 a3 a4 a5 a6 a7 a8 a9 a10 a11 a12 a13 a14 a15 a16 a17 a18 a19 a20 a21 a22 a23 (K0 κ) (K1 κ) by rw [k];rw [g3 R af (bm.R n) κ aH];rfl)
theorem aX {R:Type} (tab:cb) (ht:aL tab) (a0 a1 a2 a3 a4 a5 a6 a7 a8 a9 a10 a11 a12 a13 a14 a15 a16 a17 a18 a19 a20 a21 a22 a23:_) (κ : KT R):aa Tryd.prog (al bN) tab 32 [.agg [.str a0,.str a1,.str a2,.ro 95 a3 true,.bool a4,.str a5,.bool a6,.str a7,.bool a8,.str a9,.bool a10,.str a11,.ro 95 a12 true,.ro 9 a13 true,.bool a14,.str a15,.int .i64 a16,.int .i64 a17,.int .i64 a18,.int .i64 a19,.int .i64 a20,.ro 31 a21 true],.bool a22,.int .i64 a23] κ (bm a0 a1 a2 a3 a4 a5 a6 a7 a8 a9 a10 a11 a12 a13 a14 a15 a16 a17 a18 a19 a20 a21 a22 a23 (K0 κ) (K1 κ)):=mX tab ht aH a0 a1 a2 a3 a4 a5 a6 a7 a8 a9 a10 a11 a12 a13 a14 a15 a16 a17 a18 a19 a20 a21 a22 a23 κ
end bm
namespace ck
abbrev K0 {R:Type} (κ : KT R):BA->BA->BA->Bool->BA->Bool->BA->Bool->BA->Bool->BA->Bool->BA->Int->Int->Int->Int->Int->Bool->Option R:=fun r0 r1 r2 r3 r4 r5 r6 r7 r8 r9 r10 r11 r12 r13 r14 r15 r16 r17 r18=>κ [.tup [.agg [.str r0,.str r1,.str r2,.nil,.bool r3,.str r4,.bool r5,.str r6,.bool r7,.str r8,.bool r9,.str r10,.nil,.nil,.bool r11,.str r12,.int .i64 r13,.int .i64 r14,.int .i64 r15,.int .i64 r16,.int .i64 r17,.nil],.bool r18]]
abbrev K1 {R:Type} (κ : KT R):BA->BA->BA->LA->Bool->BA->Bool->BA->Bool->BA->Bool->BA->LA->LA->Bool->BA->Int->Int->Int->Int->Int->LA->Bool->Option R:=fun r0 r1 r2 r3 r4 r5 r6 r7 r8 r9 r10 r11 r12 r13 r14 r15 r16 r17 r18 r19 r20 r21 r22=>κ [.tup [.agg [.str r0,.str r1,.str r2,.ro 95 r3 true,.bool r4,.str r5,.bool r6,.str r7,.bool r8,.str r9,.bool r10,.str r11,.ro 95 r12 true,.ro 9 r13 true,.bool r14,.str r15,.int .i64 r16,.int .i64 r17,.int .i64 r18,.int .i64 r19,.int .i64 r20,.ro 31 r21 true],.bool r22]]
section
variable (R:Type) (c1:bX.F R) (c2:bm.F R) (c3:aE.F R)
def Γ (g:Nat) (xs:List SV) (κ : KT R):Option R :=
 match g with
 | 31=>(match xs with
  | [.str a0]=>c1 a0 (bX.K0 κ)
  | _=>none)
 | 32=>(match xs with
  | [.agg [.str a0,.str a1,.str a2,.ro 95 a3 true,.bool a4,.str a5,.bool a6,.str a7,.bool a8,.str a9,.bool a10,.str a11,.ro 95 a12 true,.ro 9 a13 true,.bool a14,.str a15,.int .i64 a16,.int .i64 a17,.int .i64 a18,.int .i64 a19,.int .i64 a20,.ro 31 a21 true],.bool a22,.int .i64 a23]=>c2 a0 a1 a2 a3 a4 a5 a6 a7 a8 a9 a10 a11 a12 a13 a14 a15 a16 a17 a18 a19 a20 a21 a22 a23 (bm.K0 κ) (bm.K1 κ)
  | _=>none)
 | 39=>(match xs with
  | [.str a0,.str a1]=>c3 a0 a1 (aE.K0 κ)
  | _=>none)
 | _=>none
def C:Cfg R:=⟨al bN,Γ R c1 c2 c3,fun _=>false,fun _=>none,0,fun _=>false⟩
def F0:SpF:=⟨30,39,aH,⟨#[46]⟩⟩
def st:=fun (a0 a1 a2 a3 a4 a5 a6 a7 a8 a9 a10 a11 a12 a13 a14 a15 a16 a17 a18 a19 a20 a21 a22:_) (i:Bool) (x0 x1 x2 x3 x4 x5 x6 x7 x8 x9 x10 x11 x12 x13 x14 x15 x16 x17 x18 x19 x20 x21:_)=>(⟨eJ 34 [(0,.agg [.str a0,.str a1,.str a2,.ro 95 a3 true,.bool a4,.str a5,.bool a6,.str a7,.bool a8,.str a9,.bool a10,.str a11,.ro 95 a12 true,.ro 9 a13 true,.bool a14,.str a15,.int .i64 a16,.int .i64 a17,.int .i64 a18,.int .i64 a19,.int .i64 a20,.ro 31 a21 true]),(1,.str a22),(2,.ptr 64 0),(3,.undef),(4,.ptr 65 0),(5,.ptr 66 0),(6,.ptr 67 0),(10,.str a22),(11,.bool (decide (a22=(⟨#[]⟩:BA)))),(12,.undef),(13,.str a22),(14,.no),(31,.undef),(32,.undef),(33,.undef)],[(67,.var 4 [.bool i]),(66,.var 4 [.bool false]),(65,.var 31 [.str (⟨#[]⟩:BA),.str (⟨#[]⟩:BA),.str (⟨#[]⟩:BA),.nil,.bool false,.str (⟨#[]⟩:BA),.bool false,.str (⟨#[]⟩:BA),.bool false,.str (⟨#[]⟩:BA),.bool false,.str (⟨#[]⟩:BA),.nil,.nil,.bool false,.str (⟨#[]⟩:BA),.int .i64 0,.int .i64 0,.int .i64 0,.int .i64 0,.int .i64 0,.nil]),(64,.var 31 [.str x0,.str x1,.str x2,.ro 95 x3 true,.bool x4,.str x5,.bool x6,.str x7,.bool x8,.str x9,.bool x10,.str x11,.ro 95 x12 true,.ro 9 x13 true,.bool x14,.str x15,.int .i64 x16,.int .i64 x17,.int .i64 x18,.int .i64 x19,.int .i64 x20,.ro 31 x21 true])],68⟩:St)
noncomputable def I:lR:=(Tryd.f20.body.bind Ex).getD default
noncomputable def Z:Code:=(Tryd.f20.body.bind FF).getD .skip
noncomputable def EM (κ : KT R):Exit->St->Option R:=fun e s1=>(tH (Di (C R c1 c2 c3) Tryd.f20 0 κ) fun s1=>cK (C R c1 c2 c3) Z s1 (Cr (Di (C R c1 c2 c3) Tryd.f20 0 κ))) (tX I.b e) s1
theorem kR (J:BA->St->Option R) (κ : KT R) (a0 a1 a2 a3 a4 a5 a6 a7 a8 a9 a10 a11 a12 a13 a14 a15 a16 a17 a18 a19 a20 a21 a22:_) (i:Bool) (p:BA) (x0 x1 x2 x3 x4 x5 x6 x7 x8 x9 x10 x11 x12 x13 x14 x15 x16 x17 x18 x19 x20 x21:_):EK (C R c1 c2 c3) 39 I (EM R c1 c2 c3 κ) J p (st a0 a1 a2 a3 a4 a5 a6 a7 a8 a9 a10 a11 a12 a13 a14 a15 a16 a17 a18 a19 a20 a21 a22 i x0 x1 x2 x3 x4 x5 x6 x7 x8 x9 x10 x11 x12 x13 x14 x15 x16 x17 x18 x19 x20 x21)=t c1 c2 c3 (K0 κ) (K1 κ) a22 (fun p x0 x1 x2 x3 x4 x5 x6 x7 x8 x9 x10 x11 x12 x13 x14 x15 x16 x17 x18 x19 x20 x21=>J p (st a0 a1 a2 a3 a4 a5 a6 a7 a8 a9 a10 a11 a12 a13 a14 a15 a16 a17 a18 a19 a20 a21 a22 false x0 x1 x2 x3 x4 x5 x6 x7 x8 x9 x10 x11 x12 x13 x14 x15 x16 x17 x18 x19 x20 x21)) p x0 x1 x2 x3 x4 x5 x6 x7 x8 x9 x10 x11 x12 x13 x14 x15 x16 x17 x18 x19 x20 x21 i:=by kernel_rfl
theorem kL (κ : KT R) (a0 a1 a2 a3 a4 a5 a6 a7 a8 a9 a10 a11 a12 a13 a14 a15 a16 a17 a18 a19 a20 a21 a22:_):∀ (f:Nat) (i:Bool) (p:BA) (x0 x1 x2 x3 x4 x5 x6 x7 x8 x9 x10 x11 x12 x13 x14 x15 x16 x17 x18 x19 x20 x21:_),Ap (C R c1 c2 c3) 39 I (EM R c1 c2 c3 κ) f p (st a0 a1 a2 a3 a4 a5 a6 a7 a8 a9 a10 a11 a12 a13 a14 a15 a16 a17 a18 a19 a20 a21 a22 i x0 x1 x2 x3 x4 x5 x6 x7 x8 x9 x10 x11 x12 x13 x14 x15 x16 x17 x18 x19 x20 x21)=L c1 c2 c3 (K0 κ) (K1 κ) a22 f i p x0 x1 x2 x3 x4 x5 x6 x7 x8 x9 x10 x11 x12 x13 x14 x15 x16 x17 x18 x19 x20 x21
 | 0,_,_,_,_,_,_,_,_,_,_,_,_,_,_,_,_,_,_,_,_,_,_,_,_=>rfl
 | f+1,i,p,x0,x1,x2,x3,x4,x5,x6,x7,x8,x9,x10,x11,x12,x13,x14,x15,x16,x17,x18,x19,x20,x21=>(kR R c1 c2 c3 (Ap (C R c1 c2 c3) 39 I (EM R c1 c2 c3 κ) f) κ a0 a1 a2 a3 a4 a5 a6 a7 a8 a9 a10 a11 a12 a13 a14 a15 a16 a17 a18 a19 a20 a21 a22 i p x0 x1 x2 x3 x4 x5 x6 x7 x8 x9 x10 x11 x12 x13 x14 x15 x16 x17 x18 x19 x20 x21).trans (congrArg (fun j=>t c1 c2 c3 (K0 κ) (K1 κ) a22 j p x0 x1 x2 x3 x4 x5 x6 x7 x8 x9 x10 x11 x12 x13 x14 x15 x16 x17 x18 x19 x20 x21 i) (by
  funext p x0 x1 x2 x3 x4 x5 x6 x7 x8 x9 x10 x11 x12 x13 x14 x15 x16 x17 x18 x19 x20 x21
  exact kL κ a0 a1 a2 a3 a4 a5 a6 a7 a8 a9 a10 a11 a12 a13 a14 a15 a16 a17 a18 a19 a20 a21 a22 f false p x0 x1 x2 x3 x4 x5 x6 x7 x8 x9 x10 x11 x12 x13 x14 x15 x16 x17 x18 x19 x20 x21))
theorem k (κ : KT R) (a0 a1 a2 a3 a4 a5 a6 a7 a8 a9 a10 a11 a12 a13 a14 a15 a16 a17 a18 a19 a20 a21 a22:_):Bm (C R c1 c2 c3) F0 Tryd.f20 [.agg [.str a0,.str a1,.str a2,.ro 95 a3 true,.bool a4,.str a5,.bool a6,.str a7,.bool a8,.str a9,.bool a10,.str a11,.ro 95 a12 true,.ro 9 a13 true,.bool a14,.str a15,.int .i64 a16,.int .i64 a17,.int .i64 a18,.int .i64 a19,.int .i64 a20,.ro 31 a21 true],.str a22] κ = (bif (decide (a22=(⟨#[]⟩:BA))) then (K1 κ a0 a1 a2 a3 a4 a5 a6 a7 a8 a9 a10 a11 a12 a13 a14 a15 a16 a17 a18 a19 a20 a21 true) else (bW (decide (a22.size<281474976710656)) (Ap (C R c1 c2 c3) 39 I (EM R c1 c2 c3 κ) aH a22 (st a0 a1 a2 a3 a4 a5 a6 a7 a8 a9 a10 a11 a12 a13 a14 a15 a16 a17 a18 a19 a20 a21 a22 true a0 a1 a2 a3 a4 a5 a6 a7 a8 a9 a10 a11 a12 a13 a14 a15 a16 a17 a18 a19 a20 a21)))):=by kernel_rfl
end
theorem aj {R:Type} (tab:cb) (ht:aL tab) (g:Nat):bR (R:=R) Tryd.prog (al bN) tab g ((C R bX bm aE).call g):=by
 refine aY fun xs κ => ?_
 show aa _ _ _ g xs κ (Γ R bX bm aE g xs κ)
 unfold Γ
 split
 ·split
  ·exact bX.aX tab ht _ κ
  ·exact aa.none
 ·split
  ·exact bm.aX tab ht _ _ _ _ _ _ _ _ _ _ _ _ _ _ _ _ _ _ _ _ _ _ _ _ κ
  ·exact aa.none
 ·split
  ·exact aE.aX tab ht _ _ κ
  ·exact aa.none
 ·exact aa.none
theorem aX {R:Type} (tab:cb) (ht:aL tab) (a0 a1 a2 a3 a4 a5 a6 a7 a8 a9 a10 a11 a12 a13 a14 a15 a16 a17 a18 a19 a20 a21 a22:_) (κ : KT R):aa Tryd.prog (al bN) tab 20 [.agg [.str a0,.str a1,.str a2,.ro 95 a3 true,.bool a4,.str a5,.bool a6,.str a7,.bool a8,.str a9,.bool a10,.str a11,.ro 95 a12 true,.ro 9 a13 true,.bool a14,.str a15,.int .i64 a16,.int .i64 a17,.int .i64 a18,.int .i64 a19,.int .i64 a20,.ro 31 a21 true],.str a22] κ (ck a0 a1 a2 a3 a4 a5 a6 a7 a8 a9 a10 a11 a12 a13 a14 a15 a16 a17 a18 a19 a20 a21 a22 (K0 κ) (K1 κ)):=rZ (C:=C R bX bm aE) (fn:=Tryd.f20) cy (aj tab ht) Ey (by kernel_rfl) (by kernel_rfl) ((k R bX bm aE κ a0 a1 a2 a3 a4 a5 a6 a7 a8 a9 a10 a11 a12 a13 a14 a15 a16 a17 a18 a19 a20 a21 a22).trans (by rw [kL];rfl))
end ck
namespace bC
abbrev K0 {R:Type} (κ : KT R):Q0 R:=fun r0 r1 r2 r3 r4 r5 r6 r7 r8 r9 r10 r11 r12 r13 r14 r15 r16 r17 r18=>κ [.bool r0,.vp 31 [.str r1,.str r2,.str r3,.nil,.bool r4,.str r5,.bool r6,.str r7,.bool r8,.str r9,.bool r10,.str r11,.nil,.nil,.bool r12,.str r13,.int .i64 r14,.int .i64 r15,.int .i64 r16,.int .i64 r17,.int .i64 r18,.nil]]
section
variable (R:Type)
def Γ (g:Nat) (xs:List SV) (κ : KT R):Option R :=
 match g with
 | _=>none
def h (n:Nat):Option (List (Nat × List (Nat × Nat))) :=
 match n with
 | _=>none
def C:Cfg R:=⟨al bN,Γ R,fun _=>false,h,0,fun _=>false⟩
theorem k (κ : KT R) (k:Nat) (a0 a1 a2 a3 a4 a5 a6 a7 a8 a9 a10 a11 a12 a13 a14 a15 a16 a17:_):cv (C R) Tryd.f21 10000 k [.vp 31 [.str a0,.str a1,.str a2,.nil,.bool a3,.str a4,.bool a5,.str a6,.bool a7,.str a8,.bool a9,.str a10,.nil,.nil,.bool a11,.str a12,.int .i64 a13,.int .i64 a14,.int .i64 a15,.int .i64 a16,.int .i64 a17,.nil]] κ = bC.e a0 a1 a2 a3 a4 a5 a6 a7 a8 a9 a10 a11 a12 a13 a14 a15 a16 a17 (K0 κ):=by kernel_rfl
end
theorem aj {R:Type} (tab:cb) (ht:aL tab) (g:Nat):bR (R:=R) Tryd.prog (al bN) tab g ((C R).call g):=by
 refine aY fun xs κ => ?_
 show aa _ _ _ g xs κ (Γ R g xs κ)
 unfold Γ
 split
 ·exact aa.none
theorem aX {R:Type} (tab:cb) (ht:aL tab) (a0 a1 a2 a3 a4 a5 a6 a7 a8 a9 a10 a11 a12 a13 a14 a15 a16 a17:_) (κ : KT R):aa Tryd.prog (al bN) tab 21 [.vp 31 [.str a0,.str a1,.str a2,.nil,.bool a3,.str a4,.bool a5,.str a6,.bool a7,.str a8,.bool a9,.str a10,.nil,.nil,.bool a11,.str a12,.int .i64 a13,.int .i64 a14,.int .i64 a15,.int .i64 a16,.int .i64 a17,.nil]] κ (bC a0 a1 a2 a3 a4 a5 a6 a7 a8 a9 a10 a11 a12 a13 a14 a15 a16 a17 (K0 κ)):=aw (C:=C R) (fn:=Tryd.f21) cy (aj tab ht) (by kernel_rfl) (by kernel_rfl) (by rw [k];rfl)
end bC
namespace cA
abbrev K0 {R:Type} (κ : KT R):BA->Bool->Option R:=fun r0 r1=>κ [.tup [.str r0,.bool r1]]
section
variable (R:Type)
def Γ (g:Nat) (xs:List SV) (κ : KT R):Option R :=
 match g with
 | _=>none
def h (n:Nat):Option (List (Nat × List (Nat × Nat))) :=
 match n with
 | _=>none
def C:Cfg R:=⟨al bN,Γ R,fun _=>false,h,0,fun _=>false⟩
theorem k (κ : KT R) (k:Nat) (a0 a1 a2:_):cv (C R) Tryd.f22 10000 k [.str a0,.agg [.int .i64 a1,.int .i64 a2]] κ = cA.e a0 a1 a2 (K0 κ):=by kernel_rfl
end
theorem aj {R:Type} (tab:cb) (ht:aL tab) (g:Nat):bR (R:=R) Tryd.prog (al bN) tab g ((C R).call g):=by
 refine aY fun xs κ => ?_
 show aa _ _ _ g xs κ (Γ R g xs κ)
 unfold Γ
 split
 ·exact aa.none
theorem aX {R:Type} (tab:cb) (ht:aL tab) (a0 a1 a2:_) (κ : KT R):aa Tryd.prog (al bN) tab 22 [.str a0,.agg [.int .i64 a1,.int .i64 a2]] κ (cA a0 a1 a2 (K0 κ)):=aw (C:=C R) (fn:=Tryd.f22) cy (aj tab ht) (by kernel_rfl) (by kernel_rfl) (by rw [k];rfl)
end cA
namespace bF
abbrev K0 {R:Type} (κ : KT R):Bool->Option R:=fun r0=>κ [.bool r0]
section
variable (R:Type) (c1:bz.F R)
def Γ (g:Nat) (xs:List SV) (κ : KT R):Option R :=
 match g with
 | 58=>(match xs with
  | [.str a0,.str a1]=>c1 a0 a1 (bz.K0 κ)
  | _=>none)
 | _=>none
def h (n:Nat):Option (List (Nat × List (Nat × Nat))) :=
 match n with
 | _=>none
def C:Cfg R:=⟨al bN,Γ R c1,fun _=>false,h,0,fun _=>false⟩
theorem k (κ : KT R) (k:Nat) (a0 a1:_):cv (C R c1) Tryd.f36 10000 k [.str a0,.str a1] κ = bF.e c1 a0 a1 (K0 κ):=by kernel_rfl
end
theorem aj {R:Type} (tab:cb) (ht:aL tab) (g:Nat):bR (R:=R) Tryd.prog (al bN) tab g ((C R bz).call g):=by
 refine aY fun xs κ => ?_
 show aa _ _ _ g xs κ (Γ R bz g xs κ)
 unfold Γ
 split
 ·split
  ·exact bz.aX tab ht _ _ κ
  ·exact aa.none
 ·exact aa.none
theorem aX {R:Type} (tab:cb) (ht:aL tab) (a0 a1:_) (κ : KT R):aa Tryd.prog (al bN) tab 36 [.str a0,.str a1] κ (bF a0 a1 (K0 κ)):=aw (C:=C R bz) (fn:=Tryd.f36) cy (aj tab ht) (by kernel_rfl) (by kernel_rfl) (by rw [k];rfl)
end bF
namespace aC
abbrev K0 {R:Type} (κ : KT R):Int->LA->Option R:=fun r0 r1=>κ [.tup [.int .i64 r0,.nili],.vp 76 [.nos,.fr 5 r1 true]]
section
variable (R:Type) (c1:bi.F R)
def Γ (g:Nat) (xs:List SV) (κ : KT R):Option R :=
 match g with
 | 57=>(match xs with
  | [.vp 76 [.nos,.fr 5 a0 true]]=>c1 a0 (fun r0=>κ [.tup [],.vp 76 [.nos,.fr 5 r0 true]])
  | _=>none)
 | _=>none
def h (n:Nat):Option (List (Nat × List (Nat × Nat))) :=
 match n with
 | _=>none
def C:Cfg R:=⟨al bN,Γ R c1,fun _=>false,h,0,fun _=>false⟩
theorem k (κ : KT R) (k:Nat) (a0 a1:_):cv (C R c1) Tryd.f35 10000 k [.vp 76 [.nos,.fr 5 a0 true],.str a1] κ = aC.e c1 a0 a1 (K0 κ):=by kernel_rfl
end
theorem aj {R:Type} (tab:cb) (ht:aL tab) (g:Nat):bR (R:=R) Tryd.prog (al bN) tab g ((C R bi).call g):=by
 refine aY fun xs κ => ?_
 show aa _ _ _ g xs κ (Γ R bi g xs κ)
 unfold Γ
 split
 ·split
  ·exact bi.aX tab ht _ κ
  ·exact aa.none
 ·exact aa.none
theorem aX {R:Type} (tab:cb) (ht:aL tab) (a0 a1:_) (κ : KT R):aa Tryd.prog (al bN) tab 35 [.vp 76 [.nos,.fr 5 a0 true],.str a1] κ (aC a0 a1 (K0 κ)):=aw (C:=C R bi) (fn:=Tryd.f35) cy (aj tab ht) (by kernel_rfl) (by kernel_rfl) (by rw [k];rfl)
end aC
namespace cF
abbrev K0 {R:Type} (κ : KT R):BA->Option R:=fun r0=>κ [.str r0]
section
variable (R:Type) (c1:bj.F R) (c2:aC.F R) (c3:aq.F R) (c4:bF.F R)
def Γ (g:Nat) (xs:List SV) (κ : KT R):Option R :=
 match g with
 | 33=>(match xs with
  | [.str a0]=>c1 a0 (bj.K0 κ)
  | _=>none)
 | 35=>(match xs with
  | [.vp 76 [.nos,.fr 5 a0 true],.str a1]=>c2 a0 a1 (aC.K0 κ)
  | _=>none)
 | 36=>(match xs with
  | [.str a0,.str a1]=>c4 a0 a1 (bF.K0 κ)
  | _=>none)
 | 37=>(match xs with
  | [.vp 76 [.nos,.fr 5 a0 true]]=>c3 a0 (aq.K0 κ)
  | _=>none)
 | _=>none
def h (n:Nat):Option (List (Nat × List (Nat × Nat))) :=
 match n with
 | 3=>some [(1,[(0,0)]),(2,[(0,0)]),(7,[(1,7)]),(14,[(0,0)]),(15,[(0,0)]),(16,[(0,0)])]
 | 7=>some [(1,[(0,0)]),(2,[(0,0)]),(7,[(0,0)]),(9,[(0,0)]),(10,[(0,0)]),(14,[(0,0)]),(15,[(0,0)]),(16,[(0,0)]),(20,[(0,0)]),(21,[(0,0)]),(22,[(0,0)])]
 | _=>none
def C:Cfg R:=⟨al bN,Γ R c1 c2 c3 c4,fun _=>false,h,0,fun _=>false⟩
noncomputable def S:=S0 (C R c1 c2 c3 c4) Tryd.f23 0
noncomputable def G:=G0 (C R c1 c2 c3 c4) Tryd.f23 0
def s3:=fun x0 x1 x2 x3 x4=>(⟨eJ 52 [(1,.bool x0),(2,.nil),(7,.ptr 575 0),(14,.own 960),(15,.int .i64 x1),(16,.int .i64 x2)],[(575,.var 76 [.nos,.own 513]),(513,.row 5 x3 true),(960,.row 80 x4 true)],eH⟩:St)
def s7:=fun x0 x1 x2 x3 x4 x5 x6 x7 x8 x9 x10 x11=>(⟨eJ 52 [(1,.bool x0),(2,.nil),(7,.ptr 575 0),(9,.ptr 703 0),(10,.bool x1),(14,.own 960),(15,.int .i64 x2),(16,.int .i64 x3),(20,.nil),(21,.int .i64 x4),(22,.int .i64 x5)],[(575,.var 76 [.nos,.own 513]),(513,.row 5 x6 true),(703,.var 80 [.str x7,.str x8,.bool x9,.bool x10]),(960,.row 80 x11 true)],eH⟩:St)
noncomputable abbrev q3 {R:Type} (J:JT R):J3 R:=fun x0 x1 x2 x3 x4=>J (placeOf Tryd.f23 3) (s3 x0 x1 x2 x3 x4)
noncomputable abbrev q7 {R:Type} (J:JT R):J7 R:=fun x0 x1 x2 x3 x4 x5 x6 x7 x8 x9 x10 x11=>J (placeOf Tryd.f23 7) (s7 x0 x1 x2 x3 x4 x5 x6 x7 x8 x9 x10 x11)
theorem k3 (J:JT R) (κ : KT R) (x0 x1 x2 x3 x4:_):S R c1 c2 c3 c4 κ J 3 (s3 x0 x1 x2 x3 x4)=t3 c2 c3 (q7 J) (K0 κ) x0 x1 x2 x3 x4:=by kernel_rfl
theorem k7 (J:JT R) (κ : KT R) (x0 x1 x2 x3 x4 x5 x6 x7 x8 x9 x10 x11:_):S R c1 c2 c3 c4 κ J 7 (s7 x0 x1 x2 x3 x4 x5 x6 x7 x8 x9 x10 x11)=t7 c2 c4 (q3 J) x0 x1 x2 x3 x4 x5 x6 x7 x8 x9 x10 x11:=by kernel_rfl
theorem k (κ : KT R) (k:Nat) (a0 a1:_):cv (C R c1 c2 c3 c4) Tryd.f23 10000 k [.str a0,.bool a1,.nil] κ = cF.e c1 c2 c3 c4 a0 a1 (q3 (G R c1 c2 c3 c4 κ k)) (q7 (G R c1 c2 c3 c4 κ k)) (K0 κ):=by kernel_rfl
theorem EZ (κ : KT R):∀ (f:Nat),(q3 (G R c1 c2 c3 c4 κ f)=L3 c1 c2 c3 c4 (K0 κ) f)/\(q7 (G R c1 c2 c3 c4 κ f)=L7 c1 c2 c3 c4 (K0 κ) f)
 | 0=>⟨rfl,rfl⟩
 | f+1=>by
  obtain ⟨ih0,ih1⟩:=EZ κ f
  refine ⟨?_,?_⟩
  ·funext x0 x1 x2 x3 x4
   show S R c1 c2 c3 c4 κ (G R c1 c2 c3 c4 κ f) 3 _=_
   rw [k3,ih1]
   rfl
  ·funext x0 x1 x2 x3 x4 x5 x6 x7 x8 x9 x10 x11
   show S R c1 c2 c3 c4 κ (G R c1 c2 c3 c4 κ f) 7 _=_
   rw [k7,ih0]
   rfl
theorem g3 (κ : KT R) (f:Nat):q3 (G R c1 c2 c3 c4 κ f)=L3 c1 c2 c3 c4 (K0 κ) f:=(EZ R c1 c2 c3 c4 κ f).1
theorem g7 (κ : KT R) (f:Nat):q7 (G R c1 c2 c3 c4 κ f)=L7 c1 c2 c3 c4 (K0 κ) f:=(EZ R c1 c2 c3 c4 κ f).2
end
theorem aj {R:Type} (tab:cb) (ht:aL tab) (g:Nat):bR (R:=R) Tryd.prog (al bN) tab g ((C R bj aC aq bF).call g):=by
 refine aY fun xs κ => ?_
 show aa _ _ _ g xs κ (Γ R bj aC aq bF g xs κ)
 unfold Γ
 split
 ·split
  ·exact bj.aX tab ht _ κ
  ·exact aa.none
 ·split
  ·exact aC.aX tab ht _ _ κ
  ·exact aa.none
 ·split
  ·exact bF.aX tab ht _ _ κ
  ·exact aa.none
 ·split
  ·exact aq.aX tab ht _ κ
  ·exact aa.none
 ·exact aa.none
theorem aX {R:Type} (tab:cb) (ht:aL tab) (a0 a1:_) (κ : KT R):aa Tryd.prog (al bN) tab 23 [.str a0,.bool a1,.nil] κ (cF a0 a1 (K0 κ)):=aw (C:=C R bj aC aq bF) (fn:=Tryd.f23) cy (aj tab ht) (by kernel_rfl) (by kernel_rfl) (by rw [k];rw [g3 R bj aC aq bF κ aH,g7 R bj aC aq bF κ aH];rfl)
end cF
namespace ao
abbrev K0 {R:Type} (κ : KT R):BA->Bool->Option R:=fun r0 r1=>κ [.tup [.str r0,.bool r1]]
section
variable (R:Type) (c1:ck.F R) (c2:bC.F R) (c3:af.F R) (c4:cA.F R) (c5:cF.F R)
def Γ (g:Nat) (xs:List SV) (κ : KT R):Option R :=
 match g with
 | 20=>(match xs with
  | [.agg [.str a0,.str a1,.str a2,.ro 95 a3 true,.bool a4,.str a5,.bool a6,.str a7,.bool a8,.str a9,.bool a10,.str a11,.ro 95 a12 true,.ro 9 a13 true,.bool a14,.str a15,.int .i64 a16,.int .i64 a17,.int .i64 a18,.int .i64 a19,.int .i64 a20,.ro 31 a21 true],.str a22]=>c1 a0 a1 a2 a3 a4 a5 a6 a7 a8 a9 a10 a11 a12 a13 a14 a15 a16 a17 a18 a19 a20 a21 a22 (fun r0 r1 r2 r3 r4 r5 r6 r7 r8 r9 r10 r11 r12 r13 r14 r15 r16 r17 r18=>κ [.tup [.agg [.str r0,.str r1,.str r2,.nil,.bool r3,.str r4,.bool r5,.str r6,.bool r7,.str r8,.bool r9,.str r10,.nil,.nil,.bool r11,.str r12,.int .i64 r13,.int .i64 r14,.int .i64 r15,.int .i64 r16,.int .i64 r17,.nil],.bool r18]]) (fun r0 r1 r2 r3 r4 r5 r6 r7 r8 r9 r10 r11 r12 r13 r14 r15 r16 r17 r18 r19 r20 r21 r22=>κ [.tup [.agg [.str r0,.str r1,.str r2,.ro 95 r3 true,.bool r4,.str r5,.bool r6,.str r7,.bool r8,.str r9,.bool r10,.str r11,.ro 95 r12 true,.ro 9 r13 true,.bool r14,.str r15,.int .i64 r16,.int .i64 r17,.int .i64 r18,.int .i64 r19,.int .i64 r20,.ro 31 r21 true],.bool r22]])
  | _=>none)
 | 21=>(match xs with
  | [.vp 31 [.str a0,.str a1,.str a2,.nil,.bool a3,.str a4,.bool a5,.str a6,.bool a7,.str a8,.bool a9,.str a10,.nil,.nil,.bool a11,.str a12,.int .i64 a13,.int .i64 a14,.int .i64 a15,.int .i64 a16,.int .i64 a17,.nil]]=>c2 a0 a1 a2 a3 a4 a5 a6 a7 a8 a9 a10 a11 a12 a13 a14 a15 a16 a17 (bC.K0 κ)
  | [.vp 31 [.str a0,.str a1,.str a2,.ro 95 a3 true,.bool a4,.str a5,.bool a6,.str a7,.bool a8,.str a9,.bool a10,.str a11,.ro 95 a12 true,.ro 9 a13 true,.bool a14,.str a15,.int .i64 a16,.int .i64 a17,.int .i64 a18,.int .i64 a19,.int .i64 a20,.ro 31 a21 true]]=>c3 a0 a1 a2 a3 a4 a5 a6 a7 a8 a9 a10 a11 a12 a13 a14 a15 a16 a17 a18 a19 a20 a21 (af.K0 κ)
  | _=>none)
 | 22=>(match xs with
  | [.str a0,.agg [.int .i64 a1,.int .i64 a2]]=>c4 a0 a1 a2 (cA.K0 κ)
  | _=>none)
 | 23=>(match xs with
  | [.str a0,.bool a1,.nil]=>c5 a0 a1 (cF.K0 κ)
  | _=>none)
 | _=>none
def h (n:Nat):Option (List (Nat × List (Nat × Nat))) :=
 match n with
 | 10=>some [(0,[(0,0)]),(5,[(0,0)]),(8,[(3,97),(3,1),(12,97),(12,1),(13,11),(13,1),(21,33),(21,1)]),(10,[(3,97),(3,1),(12,97),(12,1),(13,11),(13,1),(21,33),(21,1)]),(49,[(0,0)])]
 | _=>none
def C:Cfg R:=⟨al bN,Γ R c1 c2 c3 c4 c5,fun _=>false,h,0,fun _=>false⟩
noncomputable def S:=S0 (C R c1 c2 c3 c4 c5) Tryd.f12 0
noncomputable def G:=G0 (C R c1 c2 c3 c4 c5) Tryd.f12 0
def Et:=fun x0 x1 x2 x3 x4 x5 x6 x7 x8 x9 x10 x11 x12 x13 x14 x15 x16 x17 x18 x19 x20 x21 x22 x23 x24 x25 x26 x27 x28 x29 x30 x31 x32 x33 x34 x35 x36 x37 x38 x39 x40 x41 x42 x43 x44 x45 x46 x47=>(⟨eJ 108 [(0,.str x0),(5,.ptr 447 0),(8,.ptr 639 0),(10,.ptr 767 0),(49,.int .i64 x1)],[(447,.var 42 [.str x2,.int .i64 x3,.nil]),(639,.var 31 [.str x4,.str x5,.str x6,.ro 95 x7 true,.bool x8,.str x9,.bool x10,.str x11,.bool x12,.str x13,.bool x14,.str x15,.ro 95 x16 true,.ro 9 x17 true,.bool x18,.str x19,.int .i64 x20,.int .i64 x21,.int .i64 x22,.int .i64 x23,.int .i64 x24,.ro 31 x25 true]),(767,.var 31 [.str x26,.str x27,.str x28,.ro 95 x29 true,.bool x30,.str x31,.bool x32,.str x33,.bool x34,.str x35,.bool x36,.str x37,.ro 95 x38 true,.ro 9 x39 true,.bool x40,.str x41,.int .i64 x42,.int .i64 x43,.int .i64 x44,.int .i64 x45,.int .i64 x46,.ro 31 x47 true])],eH⟩:St)
noncomputable abbrev Dc {R:Type} (J:JT R):x' R:=fun x0 x1 x2 x3 x4 x5 x6 x7 x8 x9 x10 x11 x12 x13 x14 x15 x16 x17 x18 x19 x20 x21 x22 x23 x24 x25 x26 x27 x28 x29 x30 x31 x32 x33 x34 x35 x36 x37 x38 x39 x40 x41 x42 x43 x44 x45 x46 x47=>J (placeOf Tryd.f12 10) (Et x0 x1 x2 x3 x4 x5 x6 x7 x8 x9 x10 x11 x12 x13 x14 x15 x16 x17 x18 x19 x20 x21 x22 x23 x24 x25 x26 x27 x28 x29 x30 x31 x32 x33 x34 x35 x36 x37 x38 x39 x40 x41 x42 x43 x44 x45 x46 x47)
theorem E1 (J:JT R) (κ : KT R) (x0 x1 x2 x3 x4 x5 x6 x7 x8 x9 x10 x11 x12 x13 x14 x15 x16 x17 x18 x19 x20 x21 x22 x23 x24 x25 x26 x27 x28 x29 x30 x31 x32 x33 x34 x35 x36 x37 x38 x39 x40 x41 x42 x43 x44 x45 x46 x47:_):S R c1 c2 c3 c4 c5 κ J 10 (Et x0 x1 x2 x3 x4 x5 x6 x7 x8 x9 x10 x11 x12 x13 x14 x15 x16 x17 x18 x19 x20 x21 x22 x23 x24 x25 x26 x27 x28 x29 x30 x31 x32 x33 x34 x35 x36 x37 x38 x39 x40 x41 x42 x43 x44 x45 x46 x47)=t10 c4 c5 (K0 κ) x0 x1 x2 x3 x4 x5 x6 x7 x8 x9 x10 x11 x12 x13 x14 x15 x16 x17 x18 x19 x20 x21 x22 x23 x24 x25 x26 x27 x28 x29 x30 x31 x32 x33 x34 x35 x36 x37 x38 x39 x40 x41 x42 x43 x44 x45 x46 x47:=by kernel_rfl
theorem k (κ : KT R) (k:Nat) (a0 a1 a2 a3 a4 a5 a6 a7 a8 a9 a10 a11 a12 a13 a14 a15 a16 a17 a18 a19 a20 a21 a22 a23 a24:_):cv (C R c1 c2 c3 c4 c5) Tryd.f12 10000 k [.str a0,.agg [.str a1,.str a2,.str a3,.ro 95 a4 true,.bool a5,.str a6,.bool a7,.str a8,.bool a9,.str a10,.bool a11,.str a12,.ro 95 a13 true,.ro 9 a14 true,.bool a15,.str a16,.int .i64 a17,.int .i64 a18,.int .i64 a19,.int .i64 a20,.int .i64 a21,.ro 31 a22 true],.agg [.str a23,.int .i64 a24,.nil]] κ = ao.e c1 c2 c3 c4 c5 a0 a1 a2 a3 a4 a5 a6 a7 a8 a9 a10 a11 a12 a13 a14 a15 a16 a17 a18 a19 a20 a21 a22 a23 a24 (Dc (G R c1 c2 c3 c4 c5 κ k)) (K0 κ):=by kernel_rfl
theorem g10 (κ : KT R):∀ (f:Nat),Dc (G R c1 c2 c3 c4 c5 κ f)=tM c1 c2 c3 c4 c5 (K0 κ) f
 | 0=>rfl
 | f+1=>by
  funext x0 x1 x2 x3 x4 x5 x6 x7 x8 x9 x10 x11 x12 x13 x14 x15 x16 x17 x18 x19 x20 x21 x22 x23 x24 x25 x26 x27 x28 x29 x30 x31 x32 x33 x34 x35 x36 x37 x38 x39 x40 x41 x42 x43 x44 x45 x46 x47
  show S R c1 c2 c3 c4 c5 κ (G R c1 c2 c3 c4 c5 κ f) 10 _=_
  rw [E1]
  rfl
end
theorem aj {R:Type} (tab:cb) (ht:aL tab) (g:Nat):bR (R:=R) Tryd.prog (al bN) tab g ((C R ck bC af cA cF).call g):=by
 refine aY fun xs κ => ?_
 show aa _ _ _ g xs κ (Γ R ck bC af cA cF g xs κ)
 unfold Γ
 split
 ·split
  ·exact ck.aX tab ht _ _ _ _ _ _ _ _ _ _ _ _ _ _ _ _ _ _ _ _ _ _ _ κ
  ·exact aa.none
 ·split
  ·exact bC.aX tab ht _ _ _ _ _ _ _ _ _ _ _ _ _ _ _ _ _ _ κ
  ·exact af.aX tab ht _ _ _ _ _ _ _ _ _ _ _ _ _ _ _ _ _ _ _ _ _ _ κ
  ·exact aa.none
 ·split
  ·exact cA.aX tab ht _ _ _ κ
  ·exact aa.none
 ·split
  ·exact cF.aX tab ht _ _ κ
  ·exact aa.none
 ·exact aa.none
theorem aX {R:Type} (tab:cb) (ht:aL tab) (a0 a1 a2 a3 a4 a5 a6 a7 a8 a9 a10 a11 a12 a13 a14 a15 a16 a17 a18 a19 a20 a21 a22 a23 a24:_) (κ : KT R):aa Tryd.prog (al bN) tab 12 [.str a0,.agg [.str a1,.str a2,.str a3,.ro 95 a4 true,.bool a5,.str a6,.bool a7,.str a8,.bool a9,.str a10,.bool a11,.str a12,.ro 95 a13 true,.ro 9 a14 true,.bool a15,.str a16,.int .i64 a17,.int .i64 a18,.int .i64 a19,.int .i64 a20,.int .i64 a21,.ro 31 a22 true],.agg [.str a23,.int .i64 a24,.nil]] κ (ao a0 a1 a2 a3 a4 a5 a6 a7 a8 a9 a10 a11 a12 a13 a14 a15 a16 a17 a18 a19 a20 a21 a22 a23 a24 (K0 κ)):=aw (C:=C R ck bC af cA cF) (fn:=Tryd.f12) cy (aj tab ht) (by kernel_rfl) (by kernel_rfl) (by rw [k];rw [g10 R ck bC af cA cF κ aH];rfl)
end ao
namespace ab
abbrev K0 {R:Type} (κ : KT R):Bool->Option R:=fun r0=>κ [.bool r0]
section
variable (R:Type) (c1:aV.F R) (c2:aK.F R) (c3:aP.F R) (c4:aG.F R) (c5:ao.F R)
def Γ (g:Nat) (xs:List SV) (κ : KT R):Option R :=
 match g with
 | 6=>(match xs with
  | []=>c1 (aV.K0 κ)
  | _=>none)
 | 7=>(match xs with
  | [.str a0]=>c4 a0 (aG.K0 κ)
  | _=>none)
 | 12=>(match xs with
  | [.str a0,.agg [.str a1,.str a2,.str a3,.ro 95 a4 true,.bool a5,.str a6,.bool a7,.str a8,.bool a9,.str a10,.bool a11,.str a12,.ro 95 a13 true,.ro 9 a14 true,.bool a15,.str a16,.int .i64 a17,.int .i64 a18,.int .i64 a19,.int .i64 a20,.int .i64 a21,.ro 31 a22 true],.agg [.str a23,.int .i64 a24,.nil]]=>c5 a0 a1 a2 a3 a4 a5 a6 a7 a8 a9 a10 a11 a12 a13 a14 a15 a16 a17 a18 a19 a20 a21 a22 a23 a24 (ao.K0 κ)
  | _=>none)
 | 13=>(match xs with
  | [.str a0]=>c2 a0 (aK.K0 κ)
  | _=>none)
 | 14=>(match xs with
  | [.str a0]=>c3 a0 (aP.K0 κ)
  | _=>none)
 | _=>none
def h (n:Nat):Option (List (Nat × List (Nat × Nat))) :=
 match n with
 | 7=>some [(0,[(0,0)]),(1,[(0,0)]),(2,[(0,0)]),(4,[(0,0)]),(12,[(0,0)])]
 | 10=>some [(0,[(0,0)]),(2,[(0,0)]),(4,[(0,0)]),(12,[(0,0)]),(13,[(0,0)]),(14,[(0,11)]),(15,[(0,0)])]
 | 15=>some [(2,[(0,0)]),(4,[(0,0)]),(12,[(0,0)]),(13,[(0,0)]),(14,[(0,0)])]
 | 19=>some [(4,[(0,0)]),(13,[(0,0)]),(14,[(0,0)])]
 | 23=>some [(4,[(0,0)]),(13,[(0,0)]),(14,[(0,0)]),(17,[(0,0)]),(18,[(0,0)])]
 | 29=>some [(4,[(0,0)]),(13,[(0,0)]),(14,[(0,0)]),(17,[(0,0)]),(18,[(0,0)]),(19,[(0,0)]),(20,[(0,0)]),(21,[(0,0)]),(22,[(0,0)]),(23,[(0,0)]),(24,[(0,0)])]
 | 32=>some [(4,[(0,0)]),(13,[(0,0)]),(14,[(0,0)]),(17,[(0,0)]),(18,[(0,0)]),(19,[(0,0)]),(20,[(0,0)]),(21,[(0,0)]),(22,[(0,0)]),(23,[(0,0)]),(25,[(0,0)])]
 | _=>none
def C:Cfg R:=⟨al bN,Γ R c1 c2 c3 c4 c5,fun _=>false,h,0,fun _=>false⟩
noncomputable def S:=S0 (C R c1 c2 c3 c4 c5) Tryd.f5 0
noncomputable def G:=G0 (C R c1 c2 c3 c4 c5) Tryd.f5 0
def s7:=fun x0 x1 x2 x3 x4=>(⟨eJ 214 [(0,.ro 9 x0 true),(1,.str x1),(2,.str x2),(4,.bool x3),(12,.str x4)],[],eH⟩:St)
def Et:=fun x0 x1 x2 x3 x4 x5 x6=>(⟨eJ 214 [(0,.ro 9 x0 true),(2,.str x1),(4,.bool x2),(12,.str x3),(13,.str x4),(14,.own 960),(15,.int .i64 x5)],[(960,.row 9 x6 true)],eH⟩:St)
def zT:=fun x0 x1 x2 x3 x4=>(⟨eJ 214 [(2,.str x0),(4,.bool x1),(12,.str x2),(13,.str x3),(14,.own 960)],[(960,.row 9 x4 true)],eH⟩:St)
def Fy:=fun x0 x1 x2=>(⟨eJ 214 [(4,.bool x0),(13,.str x1),(14,.own 960)],[(960,.row 9 x2 true)],eH⟩:St)
def Fz:=fun x0 x1 x2 x3 x4 x5 x6 x7 x8 x9 x10 x11 x12 x13 x14 x15 x16 x17 x18 x19 x20 x21 x22 x23 x24 x25=>(⟨eJ 214 [(4,.bool x0),(13,.str x1),(14,.own 960),(17,.ptr 1215 0),(18,.int .i64 x2)],[(960,.row 9 x3 true),(1215,.var 31 [.str x4,.str x5,.str x6,.ro 95 x7 true,.bool x8,.str x9,.bool x10,.str x11,.bool x12,.str x13,.bool x14,.str x15,.ro 95 x16 true,.ro 9 x17 true,.bool x18,.str x19,.int .i64 x20,.int .i64 x21,.int .i64 x22,.int .i64 x23,.int .i64 x24,.ro 31 x25 true])],eH⟩:St)
def FA:=fun x0 x1 x2 x3 x4 x5 x6 x7 x8 x9 x10 x11 x12 x13 x14 x15 x16 x17 x18 x19 x20 x21 x22 x23 x24 x25 x26 x27 x28 x29 x30 x31=>(⟨eJ 214 [(4,.bool x0),(13,.str x1),(14,.own 960),(17,.ptr 1215 0),(18,.int .i64 x2),(19,.str x3),(20,.str x4),(21,.bool x5),(22,.str x6),(23,.bool x7),(24,.bool x8)],[(960,.row 9 x9 true),(1215,.var 31 [.str x10,.str x11,.str x12,.ro 95 x13 true,.bool x14,.str x15,.bool x16,.str x17,.bool x18,.str x19,.bool x20,.str x21,.ro 95 x22 true,.ro 9 x23 true,.bool x24,.str x25,.int .i64 x26,.int .i64 x27,.int .i64 x28,.int .i64 x29,.int .i64 x30,.ro 31 x31 true])],eH⟩:St)
def FB:=fun x0 x1 x2 x3 x4 x5 x6 x7 x8 x9 x10 x11 x12 x13 x14 x15 x16 x17 x18 x19 x20 x21 x22 x23 x24 x25 x26 x27 x28 x29 x30 x31=>(⟨eJ 214 [(4,.bool x0),(13,.str x1),(14,.own 960),(17,.ptr 1215 0),(18,.int .i64 x2),(19,.str x3),(20,.str x4),(21,.bool x5),(22,.str x6),(23,.bool x7),(25,.str x8)],[(960,.row 9 x9 true),(1215,.var 31 [.str x10,.str x11,.str x12,.ro 95 x13 true,.bool x14,.str x15,.bool x16,.str x17,.bool x18,.str x19,.bool x20,.str x21,.ro 95 x22 true,.ro 9 x23 true,.bool x24,.str x25,.int .i64 x26,.int .i64 x27,.int .i64 x28,.int .i64 x29,.int .i64 x30,.ro 31 x31 true])],eH⟩:St)
noncomputable abbrev q7 {R:Type} (J:JT R):J7 R:=fun x0 x1 x2 x3 x4=>J (placeOf Tryd.f5 7) (s7 x0 x1 x2 x3 x4)
noncomputable abbrev Dc {R:Type} (J:JT R):x' R:=fun x0 x1 x2 x3 x4 x5 x6=>J (placeOf Tryd.f5 10) (Et x0 x1 x2 x3 x4 x5 x6)
noncomputable abbrev tm {R:Type} (J:JT R):my R:=fun x0 x1 x2 x3 x4=>J (placeOf Tryd.f5 15) (zT x0 x1 x2 x3 x4)
noncomputable abbrev Fe {R:Type} (J:JT R):DN R:=fun x0 x1 x2=>J (placeOf Tryd.f5 19) (Fy x0 x1 x2)
noncomputable abbrev Ep {R:Type} (J:JT R):B5 R:=fun x0 x1 x2 x3 x4 x5 x6 x7 x8 x9 x10 x11 x12 x13 x14 x15 x16 x17 x18 x19 x20 x21 x22 x23 x24 x25=>J (placeOf Tryd.f5 23) (Fz x0 x1 x2 x3 x4 x5 x6 x7 x8 x9 x10 x11 x12 x13 x14 x15 x16 x17 x18 x19 x20 x21 x22 x23 x24 x25)
noncomputable abbrev EI {R:Type} (J:JT R):Dt R:=fun x0 x1 x2 x3 x4 x5 x6 x7 x8 x9 x10 x11 x12 x13 x14 x15 x16 x17 x18 x19 x20 x21 x22 x23 x24 x25 x26 x27 x28 x29 x30 x31=>J (placeOf Tryd.f5 29) (FA x0 x1 x2 x3 x4 x5 x6 x7 x8 x9 x10 x11 x12 x13 x14 x15 x16 x17 x18 x19 x20 x21 x22 x23 x24 x25 x26 x27 x28 x29 x30 x31)
noncomputable abbrev EJ {R:Type} (J:JT R):Du R:=fun x0 x1 x2 x3 x4 x5 x6 x7 x8 x9 x10 x11 x12 x13 x14 x15 x16 x17 x18 x19 x20 x21 x22 x23 x24 x25 x26 x27 x28 x29 x30 x31=>J (placeOf Tryd.f5 32) (FB x0 x1 x2 x3 x4 x5 x6 x7 x8 x9 x10 x11 x12 x13 x14 x15 x16 x17 x18 x19 x20 x21 x22 x23 x24 x25 x26 x27 x28 x29 x30 x31)
theorem k7 (J:JT R) (κ : KT R) (x0 x1 x2 x3 x4:_):S R c1 c2 c3 c4 c5 κ J 7 (s7 x0 x1 x2 x3 x4)=t7 c2 (Dc J) x0 x1 x2 x3 x4:=by kernel_rfl
theorem E1 (J:JT R) (κ : KT R) (x0 x1 x2 x3 x4 x5 x6:_):S R c1 c2 c3 c4 c5 κ J 10 (Et x0 x1 x2 x3 x4 x5 x6)=t10 c2 (Dc J) (tm J) x0 x1 x2 x3 x4 x5 x6:=by kernel_rfl
theorem CQ (J:JT R) (κ : KT R) (x0 x1 x2 x3 x4:_):S R c1 c2 c3 c4 c5 κ J 15 (zT x0 x1 x2 x3 x4)=t15 c2 (Fe J) (K0 κ) x0 x1 x2 x3 x4:=by kernel_rfl
theorem FP (J:JT R) (κ : KT R) (x0 x1 x2:_):S R c1 c2 c3 c4 c5 κ J 19 (Fy x0 x1 x2)=t19 c4 (Ep J) (K0 κ) x0 x1 x2:=by kernel_rfl
theorem FQ (J:JT R) (κ : KT R) (x0 x1 x2 x3 x4 x5 x6 x7 x8 x9 x10 x11 x12 x13 x14 x15 x16 x17 x18 x19 x20 x21 x22 x23 x24 x25:_):S R c1 c2 c3 c4 c5 κ J 23 (Fz x0 x1 x2 x3 x4 x5 x6 x7 x8 x9 x10 x11 x12 x13 x14 x15 x16 x17 x18 x19 x20 x21 x22 x23 x24 x25)=t23 c5 (EI J) (K0 κ) x0 x1 x2 x3 x4 x5 x6 x7 x8 x9 x10 x11 x12 x13 x14 x15 x16 x17 x18 x19 x20 x21 x22 x23 x24 x25:=by kernel_rfl
theorem FR (J:JT R) (κ : KT R) (x0 x1 x2 x3 x4 x5 x6 x7 x8 x9 x10 x11 x12 x13 x14 x15 x16 x17 x18 x19 x20 x21 x22 x23 x24 x25 x26 x27 x28 x29 x30 x31:_):S R c1 c2 c3 c4 c5 κ J 29 (FA x0 x1 x2 x3 x4 x5 x6 x7 x8 x9 x10 x11 x12 x13 x14 x15 x16 x17 x18 x19 x20 x21 x22 x23 x24 x25 x26 x27 x28 x29 x30 x31)=t29 (EJ J) x0 x1 x2 x3 x4 x5 x6 x7 x8 x9 x10 x11 x12 x13 x14 x15 x16 x17 x18 x19 x20 x21 x22 x23 x24 x25 x26 x27 x28 x29 x30 x31:=by kernel_rfl
theorem FT (J:JT R) (κ : KT R) (x0 x1 x2 x3 x4 x5 x6 x7 x8 x9 x10 x11 x12 x13 x14 x15 x16 x17 x18 x19 x20 x21 x22 x23 x24 x25 x26 x27 x28 x29 x30 x31:_):S R c1 c2 c3 c4 c5 κ J 32 (FB x0 x1 x2 x3 x4 x5 x6 x7 x8 x9 x10 x11 x12 x13 x14 x15 x16 x17 x18 x19 x20 x21 x22 x23 x24 x25 x26 x27 x28 x29 x30 x31)=t32 (Ep J) (K0 κ) x0 x1 x2 x3 x4 x5 x6 x7 x8 x9 x10 x11 x12 x13 x14 x15 x16 x17 x18 x19 x20 x21 x22 x23 x24 x25 x26 x27 x28 x29 x30 x31:=by kernel_rfl
theorem k (κ : KT R) (k:Nat) (a0 a1 a2 a3 a4:_):cv (C R c1 c2 c3 c4 c5) Tryd.f5 10000 k [.ro 9 a0 true,.str a1,.str a2,.str a3,.bool a4] κ = ab.e c1 c2 c3 c4 c5 a0 a1 a2 a3 a4 (q7 (G R c1 c2 c3 c4 c5 κ k)) (Dc (G R c1 c2 c3 c4 c5 κ k)) (tm (G R c1 c2 c3 c4 c5 κ k)) (Fe (G R c1 c2 c3 c4 c5 κ k)) (Ep (G R c1 c2 c3 c4 c5 κ k)) (EI (G R c1 c2 c3 c4 c5 κ k)) (EJ (G R c1 c2 c3 c4 c5 κ k)) (K0 κ):=by kernel_rfl
theorem AO (κ : KT R):∀ (f:Nat),(Ep (G R c1 c2 c3 c4 c5 κ f)=Ar c1 c2 c3 c4 c5 (K0 κ) f)/\(EI (G R c1 c2 c3 c4 c5 κ f)=B7 c1 c2 c3 c4 c5 (K0 κ) f)/\(EJ (G R c1 c2 c3 c4 c5 κ f)=Dx c1 c2 c3 c4 c5 (K0 κ) f)
 | 0=>⟨rfl,rfl,rfl⟩
 | f+1=>by
  obtain ⟨ih0,ih1,ih2⟩:=AO κ f
  refine ⟨?_,?_,?_⟩
  ·funext x0 x1 x2 x3 x4 x5 x6 x7 x8 x9 x10 x11 x12 x13 x14 x15 x16 x17 x18 x19 x20 x21 x22 x23 x24 x25
   show S R c1 c2 c3 c4 c5 κ (G R c1 c2 c3 c4 c5 κ f) 23 _=_
   rw [FQ,ih1]
   rfl
  ·funext x0 x1 x2 x3 x4 x5 x6 x7 x8 x9 x10 x11 x12 x13 x14 x15 x16 x17 x18 x19 x20 x21 x22 x23 x24 x25 x26 x27 x28 x29 x30 x31
   show S R c1 c2 c3 c4 c5 κ (G R c1 c2 c3 c4 c5 κ f) 29 _=_
   rw [FR,ih2]
   rfl
  ·funext x0 x1 x2 x3 x4 x5 x6 x7 x8 x9 x10 x11 x12 x13 x14 x15 x16 x17 x18 x19 x20 x21 x22 x23 x24 x25 x26 x27 x28 x29 x30 x31
   show S R c1 c2 c3 c4 c5 κ (G R c1 c2 c3 c4 c5 κ f) 32 _=_
   rw [FT,ih0]
   rfl
theorem g23 (κ : KT R) (f:Nat):Ep (G R c1 c2 c3 c4 c5 κ f)=Ar c1 c2 c3 c4 c5 (K0 κ) f:=(AO R c1 c2 c3 c4 c5 κ f).1
theorem FJ (κ : KT R) (f:Nat):EI (G R c1 c2 c3 c4 c5 κ f)=B7 c1 c2 c3 c4 c5 (K0 κ) f:=(AO R c1 c2 c3 c4 c5 κ f).2.1
theorem FK (κ : KT R) (f:Nat):EJ (G R c1 c2 c3 c4 c5 κ f)=Dx c1 c2 c3 c4 c5 (K0 κ) f:=(AO R c1 c2 c3 c4 c5 κ f).2.2
theorem g19 (κ : KT R):∀ (f:Nat),Fe (G R c1 c2 c3 c4 c5 κ f)=Dw c1 c2 c3 c4 c5 (K0 κ) f
 | 0=>rfl
 | f+1=>by
  funext x0 x1 x2
  show S R c1 c2 c3 c4 c5 κ (G R c1 c2 c3 c4 c5 κ f) 19 _=_
  rw [FP,g23 R c1 c2 c3 c4 c5 κ f]
  rfl
theorem g15 (κ : KT R):∀ (f:Nat),tm (G R c1 c2 c3 c4 c5 κ f)=je c1 c2 c3 c4 c5 (K0 κ) f
 | 0=>rfl
 | f+1=>by
  funext x0 x1 x2 x3 x4
  show S R c1 c2 c3 c4 c5 κ (G R c1 c2 c3 c4 c5 κ f) 15 _=_
  rw [CQ,g19 R c1 c2 c3 c4 c5 κ f]
  rfl
theorem g10 (κ : KT R):∀ (f:Nat),Dc (G R c1 c2 c3 c4 c5 κ f)=tM c1 c2 c3 c4 c5 (K0 κ) f
 | 0=>rfl
 | f+1=>by
  funext x0 x1 x2 x3 x4 x5 x6
  show S R c1 c2 c3 c4 c5 κ (G R c1 c2 c3 c4 c5 κ f) 10 _=_
  rw [E1,g10 κ f,g15 R c1 c2 c3 c4 c5 κ f]
  rfl
theorem g7 (κ : KT R):∀ (f:Nat),q7 (G R c1 c2 c3 c4 c5 κ f)=L7 c1 c2 c3 c4 c5 (K0 κ) f
 | 0=>rfl
 | f+1=>by
  funext x0 x1 x2 x3 x4
  show S R c1 c2 c3 c4 c5 κ (G R c1 c2 c3 c4 c5 κ f) 7 _=_
  rw [k7,g10 R c1 c2 c3 c4 c5 κ f]
  rfl
end
theorem aj {R:Type} (tab:cb) (ht:aL tab) (g:Nat):bR (R:=R) Tryd.prog (al bN) tab g ((C R aV aK aP aG ao).call g):=by
 refine aY fun xs κ => ?_
 show aa _ _ _ g xs κ (Γ R aV aK aP aG ao g xs κ)
 unfold Γ
 split
 ·split
  ·exact aV.aX tab ht κ
  ·exact aa.none
 ·split
  ·exact aG.aX tab ht _ κ
  ·exact aa.none
 ·split
  ·exact ao.aX tab ht _ _ _ _ _ _ _ _ _ _ _ _ _ _ _ _ _ _ _ _ _ _ _ _ _ κ
  ·exact aa.none
 ·split
  ·exact aK.aX tab ht _ κ
  ·exact aa.none
 ·split
  ·exact aP.aX tab ht _ κ
  ·exact aa.none
 ·exact aa.none
theorem aX {R:Type} (tab:cb) (ht:aL tab) (a0 a1 a2 a3 a4:_) (κ : KT R):aa Tryd.prog (al bN) tab 5 [.ro 9 a0 true,.str a1,.str a2,.str a3,.bool a4] κ (ab a0 a1 a2 a3 a4 (K0 κ)):=aw (C:=C R aV aK aP aG ao) (fn:=Tryd.f5) cy (aj tab ht) (by kernel_rfl) (by kernel_rfl) (by rw [k];rw [g7 R aV aK aP aG ao κ aH,g10 R aV aK aP aG ao κ aH,g15 R aV aK aP aG ao κ aH,g19 R aV aK aP aG ao κ aH,g23 R aV aK aP aG ao κ aH,FJ R aV aK aP aG ao κ aH,FK R aV aK aP aG ao κ aH];rfl)
end ab
end Go.Proofs.Ab
