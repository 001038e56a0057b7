/- Each plain function is what a call of its Go function does, checked by the kernel (no condition but what its checks ask). -/
import Derived.Test.YtneffefnlogkaaaGreatDoorSeat
import Derived.Test.YtneffefnlogkaaaGreatDoorText
import Derived.Test.YtneffefnlogkaaaGreatDoorCheck1
set_option linter.unusedVariables false
set_option linter.unusedSimpArgs false
set_option maxRecDepth 4000
namespace Go.Proofs.Ab
open Go Go.Proofs
set_option maxRecDepth 100000
namespace bX
abbrev K0 {R:Type} (κ:KT R):Int->Y1 R:=fun f=>κ [.int .i64 f]
section
variable (R:Type) (c1:aV.F R) (c2:aO.F R)
def Γ (g:Nat) (xs:List SV) (κ:KT R):Y1 R:=
 match g with
 | 128=>(match xs with
  | [.str a0,.str a1]=>c2 a0 a1 (aO.K0 κ)
  | _=>none)
 | 136=>(match xs with
  | [.str a0]=>c1 a0 (aV.K0 κ)
  | _=>none)
 | _=>none
def h (n:Nat):Option (List (Nat × List (Nat × Nat))):=
 match n with
 | 6=>some [(0,[(0,0)]),(1,[(0,0)]),(5,[(0,0)])]
 | _=>none
def C:Cfg R:=⟨ag br,Γ R c1 c2,fun _=>false,h,0,fun _=>false⟩
noncomputable def S:=S0 (C R c1 c2) Tryz.f93 0
noncomputable def G:=G0 (C R c1 c2) Tryz.f93 0
def s6:=fun x0 f j=>(⟨eA 34 [(0,.str x0),(1,.str f),(5,.int .i64 j)],[],ez⟩:St)
noncomputable abbrev q6 {R:Type} (J:JT R):J6 R:=fun x0 f j=>J (placeOf Tryz.f93 6) (s6 x0 f j)
theorem k6 (J:JT R) (κ:KT R) (x0 f j:_):S R c1 c2 κ J 6 (s6 x0 f j)=t6 c2 (q6 J) (K0 κ) x0 f j:=by kernel_rfl
theorem k (κ:KT R) (k:Nat) (a0 a1:_):cA (C R c1 c2) Tryz.f93 10000 k [.str a0,.str a1] κ=bX.e c1 c2 a0 a1 (q6 (G R c1 c2 κ k)) (K0 κ):=by kernel_rfl
theorem g6 (κ:KT R):∀ (f:Nat),q6 (G R c1 c2 κ f)=L6 c1 c2 (K0 κ) f
 | 0=>rfl
 | f+1=>by
  funext x0 j m
  show S R c1 c2 κ (G R c1 c2 κ f) 6 _=_
  rw [k6,g6 κ f]
  rfl
end
theorem ae {R:Type} (tab:cg) (f:ay tab) (g:Nat):bT (R:=R) Tryz.prog (ag br) tab g ((C R aV aO).call g):=by
 refine aI fun xs κ => ?_
 show aa _ _ _ g xs κ (Γ R aV aO g xs κ)
 unfold Γ
 split
 ·split
  ·exact aO.aF tab f _ _ κ
  ·exact aa.none
 ·split
  ·exact aV.aF tab f _ κ
  ·exact aa.none
 ·exact aa.none
theorem aF {R:Type} (tab:cg) (f:ay tab) (a0 a1:_) (κ:KT R):aa Tryz.prog (ag br) tab 93 [.str a0,.str a1] κ (bX a0 a1 (K0 κ)):=aj (C:=C R aV aO) (fn:=Tryz.f93) cE (ae tab f) (by kernel_rfl) (by kernel_rfl) (by rw [k];rw [g6 R aV aO κ ah];rfl)
end bX
namespace an
abbrev K0 {R:Type} (κ:KT R):Q0 R:=fun Y r1 r2 r3 r4 r5 r6 r7 r8 r9 f j m u z A M N O U V W X=>κ [.bool Y,.vp 32 [.str r1,.str r2,.str r3,.ro 129 r4 true,.bool r5,.str r6,.bool r7,.str r8,.bool r9,.str f,.bool j,.str m,.ro 129 u true,.ro 9 z true,.bool A,.str M,.int .i64 N,.int .i64 O,.int .i64 U,.int .i64 V,.int .i64 W,.ro 32 X true]]
section
variable (R:Type)
def Γ (g:Nat) (xs:List SV) (κ:KT R):Y1 R:=
 match g with
 | _=>none
def h (n:Nat):Option (List (Nat × List (Nat × Nat))):=
 match n with
 | _=>none
def C:Cfg R:=⟨ag br,Γ R,fun _=>false,h,0,fun _=>false⟩
theorem k (κ:KT R) (k:Nat) (a0 a1 a2 a3 a4 a5 U V W a9 f j a12 m u z A M N O a20 a21:_):cA (C R) Tryz.f59 10000 k [.vp 32 [.str a0,.str a1,.str a2,.ro 129 a3 true,.bool a4,.str a5,.bool U,.str V,.bool W,.str a9,.bool f,.str j,.ro 129 a12 true,.ro 9 m true,.bool u,.str z,.int .i64 A,.int .i64 M,.int .i64 N,.int .i64 O,.int .i64 a20,.ro 32 a21 true]] κ=an.e a0 a1 a2 a3 a4 a5 U V W a9 f j a12 m u z A M N O a20 a21 (K0 κ):=by kernel_rfl
end
theorem ae {R:Type} (tab:cg) (f:ay tab) (g:Nat):bT (R:=R) Tryz.prog (ag br) tab g ((C R).call g):=by
 refine aI fun xs κ => ?_
 show aa _ _ _ g xs κ (Γ R g xs κ)
 unfold Γ
 split
 ·exact aa.none
theorem aF {R:Type} (tab:cg) (X:ay tab) (a0 a1 a2 a3 a4 a5 U V W a9 f j a12 m u z A M N O a20 a21:_) (κ:KT R):aa Tryz.prog (ag br) tab 59 [.vp 32 [.str a0,.str a1,.str a2,.ro 129 a3 true,.bool a4,.str a5,.bool U,.str V,.bool W,.str a9,.bool f,.str j,.ro 129 a12 true,.ro 9 m true,.bool u,.str z,.int .i64 A,.int .i64 M,.int .i64 N,.int .i64 O,.int .i64 a20,.ro 32 a21 true]] κ (an a0 a1 a2 a3 a4 a5 U V W a9 f j a12 m u z A M N O a20 a21 (K0 κ)):=aj (C:=C R) (fn:=Tryz.f59) cE (ae tab X) (by kernel_rfl) (by kernel_rfl) (by rw [k];rfl)
end an
namespace aD
abbrev K0 {R:Type} (κ:KT R):Q0 R:=fun Y r1 r2 r3 r4 r5 r6 r7 r8 r9 f j m u z A M N O U V W X=>κ [.bool Y,.vp 32 [.str r1,.str r2,.str r3,.ro 129 r4 true,.bool r5,.str r6,.bool r7,.str r8,.bool r9,.str f,.bool j,.str m,.ro 129 u true,.ro 9 z true,.bool A,.str M,.int .i64 N,.int .i64 O,.int .i64 U,.int .i64 V,.int .i64 W,.fr 32 X true]]
section
variable (R:Type)
def Γ (g:Nat) (xs:List SV) (κ:KT R):Y1 R:=
 match g with
 | _=>none
def h (n:Nat):Option (List (Nat × List (Nat × Nat))):=
 match n with
 | _=>none
def C:Cfg R:=⟨ag br,Γ R,fun _=>false,h,0,fun _=>false⟩
theorem k (κ:KT R) (k:Nat) (a0 a1 a2 a3 a4 a5 U V W a9 f j a12 m u z A M N O a20 a21:_):cA (C R) Tryz.f59 10000 k [.vp 32 [.str a0,.str a1,.str a2,.ro 129 a3 true,.bool a4,.str a5,.bool U,.str V,.bool W,.str a9,.bool f,.str j,.ro 129 a12 true,.ro 9 m true,.bool u,.str z,.int .i64 A,.int .i64 M,.int .i64 N,.int .i64 O,.int .i64 a20,.fr 32 a21 true]] κ=aD.e a0 a1 a2 a3 a4 a5 U V W a9 f j a12 m u z A M N O a20 a21 (K0 κ):=by kernel_rfl
end
theorem ae {R:Type} (tab:cg) (f:ay tab) (g:Nat):bT (R:=R) Tryz.prog (ag br) tab g ((C R).call g):=by
 refine aI fun xs κ => ?_
 show aa _ _ _ g xs κ (Γ R g xs κ)
 unfold Γ
 split
 ·exact aa.none
theorem aF {R:Type} (tab:cg) (X:ay tab) (a0 a1 a2 a3 a4 a5 U V W a9 f j a12 m u z A M N O a20 a21:_) (κ:KT R):aa Tryz.prog (ag br) tab 59 [.vp 32 [.str a0,.str a1,.str a2,.ro 129 a3 true,.bool a4,.str a5,.bool U,.str V,.bool W,.str a9,.bool f,.str j,.ro 129 a12 true,.ro 9 m true,.bool u,.str z,.int .i64 A,.int .i64 M,.int .i64 N,.int .i64 O,.int .i64 a20,.fr 32 a21 true]] κ (aD a0 a1 a2 a3 a4 a5 U V W a9 f j a12 m u z A M N O a20 a21 (K0 κ)):=aj (C:=C R) (fn:=Tryz.f59) cE (ae tab X) (by kernel_rfl) (by kernel_rfl) (by rw [k];rfl)
end aD
namespace cd
abbrev K0 {R:Type} (κ:KT R):Q0 R:=fun Y r1 r2 r3 r4 r5 r6 r7 r8 r9 f j m u z A M N O U V W X=>κ [.str Y,.vp 32 [.str r1,.str r2,.str r3,.ro 129 r4 true,.bool r5,.str r6,.bool r7,.str r8,.bool r9,.str f,.bool j,.str m,.ro 129 u true,.ro 9 z true,.bool A,.str M,.int .i64 N,.int .i64 O,.int .i64 U,.int .i64 V,.int .i64 W,.fr 32 X true]]
section
variable (R:Type) (c1:aD.F R) (c2:cH.F R)
def Γ (g:Nat) (xs:List SV) (κ:KT R):Y1 R:=
 match g with
 | 59=>(match xs with
  | [.vp 32 [.str a0,.str a1,.str a2,.ro 129 a3 true,.bool a4,.str a5,.bool U,.str V,.bool W,.str a9,.bool f,.str j,.ro 129 a12 true,.ro 9 m true,.bool u,.str z,.int .i64 A,.int .i64 M,.int .i64 N,.int .i64 O,.int .i64 a20,.fr 32 a21 true]]=>c1 a0 a1 a2 a3 a4 a5 U V W a9 f j a12 m u z A M N O a20 a21 (aD.K0 κ)
  | _=>none)
 | 135=>(match xs with
  | [.int .i64 a0]=>c2 a0 (cH.K0 κ)
  | _=>none)
 | _=>none
def h (n:Nat):Option (List (Nat × List (Nat × Nat))):=
 match n with
 | _=>none
def C:Cfg R:=⟨ag br,Γ R c1 c2,fun _=>false,h,0,fun _=>false⟩
theorem k (κ:KT R) (k:Nat) (a0 a1 a2 a3 a4 a5 W X Y a9 f j a12 m u z A M N O a20 a21 U V a24:_):cA (C R c1 c2) Tryz.f92 10000 k [.vp 32 [.str a0,.str a1,.str a2,.ro 129 a3 true,.bool a4,.str a5,.bool W,.str X,.bool Y,.str a9,.bool f,.str j,.ro 129 a12 true,.ro 9 m true,.bool u,.str z,.int .i64 A,.int .i64 M,.int .i64 N,.int .i64 O,.int .i64 a20,.fr 32 a21 true],.int .i64 U,.bool V,.int .i64 a24] κ=cd.e c1 c2 a0 a1 a2 a3 a4 a5 W X Y a9 f j a12 m u z A M N O a20 a21 U V a24 (K0 κ):=by kernel_rfl
end
theorem ae {R:Type} (tab:cg) (f:ay tab) (g:Nat):bT (R:=R) Tryz.prog (ag br) tab g ((C R aD cH).call g):=by
 refine aI fun xs κ => ?_
 show aa _ _ _ g xs κ (Γ R aD cH g xs κ)
 unfold Γ
 split
 ·split
  ·exact aD.aF tab f _ _ _ _ _ _ _ _ _ _ _ _ _ _ _ _ _ _ _ _ _ _ κ
  ·exact aa.none
 ·split
  ·exact cH.aF tab f _ κ
  ·exact aa.none
 ·exact aa.none
theorem aF {R:Type} (tab:cg) (ht:ay tab) (a0 a1 a2 a3 a4 a5 W X Y a9 f j a12 m u z A M N O a20 a21 U V a24:_) (κ:KT R):aa Tryz.prog (ag br) tab 92 [.vp 32 [.str a0,.str a1,.str a2,.ro 129 a3 true,.bool a4,.str a5,.bool W,.str X,.bool Y,.str a9,.bool f,.str j,.ro 129 a12 true,.ro 9 m true,.bool u,.str z,.int .i64 A,.int .i64 M,.int .i64 N,.int .i64 O,.int .i64 a20,.fr 32 a21 true],.int .i64 U,.bool V,.int .i64 a24] κ (cd a0 a1 a2 a3 a4 a5 W X Y a9 f j a12 m u z A M N O a20 a21 U V a24 (K0 κ)):=aj (C:=C R aD cH) (fn:=Tryz.f92) cE (ae tab ht) (by kernel_rfl) (by kernel_rfl) (by rw [k];rfl)
end cd
namespace al
abbrev K0 {R:Type} (κ:KT R):Q0 R:=fun r0 r1 r2 r3 r4 r5 r6 r7 r8 r9 f j m u z A M N O U V W X Y=>κ [.tup [],.vp 94 [.str r0,.int .i64 r1],.vp 32 [.str r2,.str r3,.str r4,.ro 129 r5 true,.bool r6,.str r7,.bool r8,.str r9,.bool f,.str j,.bool m,.str u,.ro 129 z true,.ro 9 A true,.bool M,.str N,.int .i64 O,.int .i64 U,.int .i64 V,.int .i64 W,.int .i64 X,.ro 32 Y true]]
abbrev K1 {R:Type} (κ:KT R):Q1 R:=fun Y r1 r2 r3 r4 r5 r6 r7 r8 r9 f j m u z A M N O U V W X=>κ [.tup [],.vp 94 [.str Y,.int .i64 r1],.vp 32 [.str r2,.str r3,.str r4,.nil,.bool r5,.str r6,.bool r7,.str r8,.bool r9,.str f,.bool j,.str m,.ro 129 u true,.ro 9 z true,.bool A,.str M,.int .i64 N,.int .i64 O,.int .i64 U,.int .i64 V,.int .i64 W,.ro 32 X true]]
section
variable (R:Type) (c1:aH.F R) (c2:aE.F R) (c3:bX.F R) (c4:an.F R) (c5:cd.F R) (c6:aD.F R) (c7:al.F R)
def Γ (g:Nat) (xs:List SV) (κ:KT R):Y1 R:=
 match g with
 | 48=>(match xs with
  | [.vp 94 [.str a0,.int .i64 a1],.agg [.int .i64 a2,.int .i64 a3],.bool a4]=>c2 a0 a1 a2 a3 a4 (aE.K0 κ)
  | _=>none)
 | 49=>(match xs with
  | [.vp 94 [.str a0,.int .i64 a1],.vp 32 [.str a2,.str a3,.str a4,.ro 129 a5 true,.bool V,.str W,.bool X,.str a9,.bool f,.str j,.bool a12,.str m,.ro 129 u true,.ro 9 z true,.bool A,.str M,.int .i64 N,.int .i64 O,.int .i64 a20,.int .i64 a21,.int .i64 U,.nil],.int .i64 Y,.bool a24]=>c7 a0 a1 a2 a3 a4 a5 V W X a9 f j a12 m u z A M N O a20 a21 U Y a24 (K0 κ) (K1 κ)
  | _=>none)
 | 59=>(match xs with
  | [.vp 32 [.str a0,.str a1,.str a2,.ro 129 a3 true,.bool a4,.str a5,.bool V,.str W,.bool X,.str a9,.bool f,.str j,.ro 129 a12 true,.ro 9 m true,.bool u,.str z,.int .i64 A,.int .i64 M,.int .i64 N,.int .i64 O,.int .i64 a20,.ro 32 a21 true]]=>c4 a0 a1 a2 a3 a4 a5 V W X a9 f j a12 m u z A M N O a20 a21 (an.K0 κ)
  | [.vp 32 [.str a0,.str a1,.str a2,.ro 129 a3 true,.bool a4,.str a5,.bool V,.str W,.bool X,.str a9,.bool f,.str j,.ro 129 a12 true,.ro 9 m true,.bool u,.str z,.int .i64 A,.int .i64 M,.int .i64 N,.int .i64 O,.int .i64 a20,.fr 32 a21 true]]=>c6 a0 a1 a2 a3 a4 a5 V W X a9 f j a12 m u z A M N O a20 a21 (aD.K0 κ)
  | _=>none)
 | 91=>(match xs with
  | [.vp 94 [.str a0,.int .i64 a1],.vp 32 [.str a2,.str a3,.str a4,.ro 129 a5 true,.bool V,.str W,.bool X,.str a9,.bool f,.str j,.bool a12,.str m,.ro 129 u true,.ro 9 z true,.bool A,.str M,.int .i64 N,.int .i64 O,.int .i64 a20,.int .i64 a21,.int .i64 U,.nil]]=>c1 a0 a1 a2 a3 a4 a5 V W X a9 f j a12 m u z A M N O a20 a21 U (aH.K0 κ) (aH.K1 κ)
  | _=>none)
 | 92=>(match xs with
  | [.vp 32 [.str a0,.str a1,.str a2,.ro 129 a3 true,.bool a4,.str a5,.bool V,.str W,.bool X,.str a9,.bool f,.str j,.ro 129 a12 true,.ro 9 m true,.bool u,.str z,.int .i64 A,.int .i64 M,.int .i64 N,.int .i64 O,.int .i64 a20,.fr 32 a21 true],.int .i64 U,.bool Y,.int .i64 a24]=>c5 a0 a1 a2 a3 a4 a5 V W X a9 f j a12 m u z A M N O a20 a21 U Y a24 (cd.K0 κ)
  | _=>none)
 | 93=>(match xs with
  | [.str a0,.str a1]=>c3 a0 a1 (bX.K0 κ)
  | _=>none)
 | _=>none
def h (n:Nat):Option (List (Nat × List (Nat × Nat))):=
 match n with
 | 2=>some [(0,[(0,0)]),(1,[(0,0)]),(2,[(0,0)]),(3,[(0,0)]),(8,[(0,31)])]
 | 5=>some [(0,[(0,0)]),(1,[(21,34)]),(2,[(0,0)]),(3,[(0,0)]),(40,[(0,0)]),(41,[(0,0)]),(42,[(0,0)])]
 | 8=>some [(0,[(0,0)]),(1,[(0,0)]),(2,[(0,0)]),(3,[(0,0)]),(9,[(0,0)]),(11,[(0,0)]),(40,[(0,0)]),(41,[(0,0)]),(42,[(0,0)])]
 | 14=>some [(0,[(0,0)]),(1,[(0,0)]),(2,[(0,0)]),(3,[(0,0)]),(40,[(0,0)]),(41,[(0,0)]),(42,[(0,0)])]
 | 15=>some [(0,[(0,0)]),(1,[(3,131),(3,1),(12,131),(12,1),(13,11),(13,1),(21,34),(21,1)])]
 | _=>none
def C:Cfg R:=⟨ag br,Γ R c1 c2 c3 c4 c5 c6 c7,fun _=>false,h,0,fun _=>false⟩
noncomputable def S:=S0 (C R c1 c2 c3 c4 c5 c6 c7) Tryz.f49 2
noncomputable def G:=G0 (C R c1 c2 c3 c4 c5 c6 c7) Tryz.f49 2
def s2:=fun x0 x1 x2 x3 x4 x5 x6 x7 x8 x9 f j m u z A M N O U V W X Y ad ae=>(⟨eA 156 [(0,.ptr 0 0),(1,.ptr 1 0),(2,.int .i64 x0),(3,.bool x1),(8,.own 576)],[(1,.var 32 [.str x2,.str x3,.str x4,.ro 129 x5 true,.bool x6,.str x7,.bool x8,.str x9,.bool f,.str j,.bool m,.str u,.ro 129 z true,.ro 9 A true,.bool M,.str N,.int .i64 O,.int .i64 U,.int .i64 V,.int .i64 W,.int .i64 X,.nil]),(0,.var 94 [.str Y,.int .i64 ad]),(576,.row 29 ae true)],ez⟩:St)
def s5:=fun x0 x1 x2 x3 x4 x5 x6 x7 x8 x9 f j m u z A M N O U V W X Y ad ae ap ar ax=>(⟨eA 156 [(0,.ptr 0 0),(1,.ptr 1 0),(2,.int .i64 x0),(3,.bool x1),(40,.own 2624),(41,.int .i64 x2),(42,.int .i64 x3)],[(1,.var 32 [.str x4,.str x5,.str x6,.ro 129 x7 true,.bool x8,.str x9,.bool f,.str j,.bool m,.str u,.bool z,.str A,.ro 129 M true,.ro 9 N true,.bool O,.str U,.int .i64 V,.int .i64 W,.int .i64 X,.int .i64 Y,.int .i64 ad,.own 149]),(0,.var 94 [.str ae,.int .i64 ap]),(149,.row 32 ar true),(2624,.row 29 ax true)],ez⟩:St)
def s8:=fun x0 x1 x2 x3 x4 x5 x6 x7 x8 x9 f j m u z A M N O U V W X Y ad ae ap ar ax a1 a6 a7 a8 bb be bk bs bx bP bS bV b0 b1 b2 b3 b4 b5 b' ca cl cp=>(⟨eA 156 [(0,.ptr 0 0),(1,.ptr 1 0),(2,.int .i64 x0),(3,.bool x1),(9,.int .i64 x2),(11,.ptr 831 0),(40,.own 2624),(41,.int .i64 x3),(42,.int .i64 x4)],[(1,.var 32 [.str x5,.str x6,.str x7,.ro 129 x8 true,.bool x9,.str f,.bool j,.str m,.bool u,.str z,.bool A,.str M,.ro 129 N true,.ro 9 O true,.bool U,.str V,.int .i64 W,.int .i64 X,.int .i64 Y,.int .i64 ad,.int .i64 ae,.own 149]),(0,.var 94 [.str ap,.int .i64 ar]),(149,.row 32 ax true),(831,.var 32 [.str a1,.str a6,.str a7,.ro 129 a8 true,.bool bb,.str be,.bool bk,.str bs,.bool bx,.str bP,.bool bS,.str bV,.ro 129 b0 true,.ro 9 b1 true,.bool b2,.str b3,.int .i64 b4,.int .i64 b5,.int .i64 b',.int .i64 ca,.int .i64 cl,.nil]),(2624,.row 29 cp true)],ez⟩:St)
def F':=fun x0 x1 x2 x3 x4 x5 x6 x7 x8 x9 f j m u z A M N O U V W X Y=>(⟨eA 156 [(0,.ptr 0 0),(1,.ptr 1 0)],[(1,.var 32 [.str x0,.str x1,.str x2,.ro 129 x3 true,.bool x4,.str x5,.bool x6,.str x7,.bool x8,.str x9,.bool f,.str j,.ro 129 m true,.ro 9 u true,.bool z,.str A,.int .i64 M,.int .i64 N,.int .i64 O,.int .i64 U,.int .i64 V,.ro 32 W true]),(0,.var 94 [.str X,.int .i64 Y])],ez⟩:St)
noncomputable abbrev q2 {R:Type} (J:JT R):J2 R:=fun x0 x1 x2 x3 x4 x5 x6 x7 x8 x9 f j m u z A M N O U V W X Y ad ae=>J (placeOf Tryz.f49 2) (s2 x0 x1 x2 x3 x4 x5 x6 x7 x8 x9 f j m u z A M N O U V W X Y ad ae)
noncomputable abbrev q5 {R:Type} (J:JT R):J5 R:=fun x0 x1 x2 x3 x4 x5 x6 x7 x8 x9 f j m u z A M N O U V W X Y ad ae ap ar ax=>J (placeOf Tryz.f49 5) (s5 x0 x1 x2 x3 x4 x5 x6 x7 x8 x9 f j m u z A M N O U V W X Y ad ae ap ar ax)
noncomputable abbrev q8 {R:Type} (J:JT R):J8 R:=fun x0 x1 x2 x3 x4 x5 x6 x7 x8 x9 f j m u z A M N O U V W X Y ad ae ap ar ax a1 a6 a7 a8 bb be bk bs bx bP bS bV b0 b1 b2 b3 b4 b5 b' ca cl cp=>J (placeOf Tryz.f49 8) (s8 x0 x1 x2 x3 x4 x5 x6 x7 x8 x9 f j m u z A M N O U V W X Y ad ae ap ar ax a1 a6 a7 a8 bb be bk bs bx bP bS bV b0 b1 b2 b3 b4 b5 b' ca cl cp)
noncomputable abbrev Fc {R:Type} (J:JT R):An R:=fun x0 x1 x2 x3 x4 x5 x6 x7 x8 x9 f j m u z A M N O U V W X Y ad ae ap ar ax=>J (placeOf Tryz.f49 14) (Fm x0 x1 x2 x3 x4 x5 x6 x7 x8 x9 f j m u z A M N O U V W X Y ad ae ap ar ax)
noncomputable abbrev Bf {R:Type} (J:JT R):tJ R:=fun x0 x1 x2 x3 x4 x5 x6 x7 x8 x9 f j m u z A M N O U V W X Y=>J (placeOf Tryz.f49 15) (F' x0 x1 x2 x3 x4 x5 x6 x7 x8 x9 f j m u z A M N O U V W X Y)
theorem k2 (J:JT R) (κ:KT R) (x0 x1 x2 x3 x4 x5 x6 x7 x8 x9 f j m u z A M N O U V W X Y ad ae:_):S R c1 c2 c3 c4 c5 c6 c7 κ J 2 (s2 x0 x1 x2 x3 x4 x5 x6 x7 x8 x9 f j m u z A M N O U V W X Y ad ae)=t2 (q5 J) (Bf J) x0 x1 x2 x3 x4 x5 x6 x7 x8 x9 f j m u z A M N O U V W X Y ad ae:=by kernel_rfl
theorem k5 (J:JT R) (κ:KT R) (x0 x1 x2 x3 x4 x5 x6 x7 x8 x9 f j m u z A M N O U V W X Y ad ae ap ar ax:_):S R c1 c2 c3 c4 c5 c6 c7 κ J 5 (s5 x0 x1 x2 x3 x4 x5 x6 x7 x8 x9 f j m u z A M N O U V W X Y ad ae ap ar ax)=t5 c2 (q8 J) (Bf J) x0 x1 x2 x3 x4 x5 x6 x7 x8 x9 f j m u z A M N O U V W X Y ad ae ap ar ax:=by kernel_rfl
theorem k8 (J:JT R) (κ:KT R) (x0 x1 x2 x3 x4 x5 x6 x7 x8 x9 f j m u z A M N O U V W X Y ad ae ap ar ax a1 a6 a7 a8 bb be bk bs bx bP bS bV b0 b1 b2 b3 b4 b5 b' ca cl cp:_):S R c1 c2 c3 c4 c5 c6 c7 κ J 8 (s8 x0 x1 x2 x3 x4 x5 x6 x7 x8 x9 f j m u z A M N O U V W X Y ad ae ap ar ax a1 a6 a7 a8 bb be bk bs bx bP bS bV b0 b1 b2 b3 b4 b5 b' ca cl cp)=t8 c5 c6 c7 (Fc J) x0 x1 x2 x3 x4 x5 x6 x7 x8 x9 f j m u z A M N O U V W X Y ad ae ap ar ax a1 a6 a7 a8 bb be bk bs bx bP bS bV b0 b1 b2 b3 b4 b5 b' ca cl cp:=by kernel_rfl
theorem IK (J:JT R) (κ:KT R) (x0 x1 x2 x3 x4 x5 x6 x7 x8 x9 f j m u z A M N O U V W X Y ad ae ap ar ax:_):S R c1 c2 c3 c4 c5 c6 c7 κ J 14 (Fm x0 x1 x2 x3 x4 x5 x6 x7 x8 x9 f j m u z A M N O U V W X Y ad ae ap ar ax)=t14 (q5 J) x0 x1 x2 x3 x4 x5 x6 x7 x8 x9 f j m u z A M N O U V W X Y ad ae ap ar ax:=by kernel_rfl
theorem HN (J:JT R) (κ:KT R) (x0 x1 x2 x3 x4 x5 x6 x7 x8 x9 f j m u z A M N O U V W X Y:_):S R c1 c2 c3 c4 c5 c6 c7 κ J 15 (F' x0 x1 x2 x3 x4 x5 x6 x7 x8 x9 f j m u z A M N O U V W X Y)=t15 c3 c4 (K0 κ) (K1 κ) x0 x1 x2 x3 x4 x5 x6 x7 x8 x9 f j m u z A M N O U V W X Y:=by kernel_rfl
theorem k (κ:KT R) (k:Nat) (a0 a1 a2 a3 a4 a5 W X Y a9 f j a12 m u z A M N O a20 a21 U V a24:_):cA (C R c1 c2 c3 c4 c5 c6 c7) Tryz.f49 10000 k [.vp 94 [.str a0,.int .i64 a1],.vp 32 [.str a2,.str a3,.str a4,.ro 129 a5 true,.bool W,.str X,.bool Y,.str a9,.bool f,.str j,.bool a12,.str m,.ro 129 u true,.ro 9 z true,.bool A,.str M,.int .i64 N,.int .i64 O,.int .i64 a20,.int .i64 a21,.int .i64 U,.nil],.int .i64 V,.bool a24] κ=al.e c1 c2 c3 c4 c5 c6 c7 a0 a1 a2 a3 a4 a5 W X Y a9 f j a12 m u z A M N O a20 a21 U V a24 (q2 (G R c1 c2 c3 c4 c5 c6 c7 κ k)) (q5 (G R c1 c2 c3 c4 c5 c6 c7 κ k)) (q8 (G R c1 c2 c3 c4 c5 c6 c7 κ k)) (Fc (G R c1 c2 c3 c4 c5 c6 c7 κ k)) (Bf (G R c1 c2 c3 c4 c5 c6 c7 κ k)) (K0 κ) (K1 κ):=by kernel_rfl
theorem g15 (κ:KT R):∀ (f:Nat),Bf (G R c1 c2 c3 c4 c5 c6 c7 κ f)=oM c1 c2 c3 c4 c5 c6 c7 (K0 κ) (K1 κ) f
 | 0=>rfl
 | f+1=>by
  funext x0 x1 x2 x3 x4 x5 x6 x7 x8 x9 j m u z A M N O U V W X Y ad
  show S R c1 c2 c3 c4 c5 c6 c7 κ (G R c1 c2 c3 c4 c5 c6 c7 κ f) 15 _=_
  rw [HN]
  rfl
theorem FO (κ:KT R):∀ (f:Nat),(q5 (G R c1 c2 c3 c4 c5 c6 c7 κ f)=L5 c1 c2 c3 c4 c5 c6 c7 (K0 κ) (K1 κ) f)/\(q8 (G R c1 c2 c3 c4 c5 c6 c7 κ f)=L8 c1 c2 c3 c4 c5 c6 c7 (K0 κ) (K1 κ) f)/\(Fc (G R c1 c2 c3 c4 c5 c6 c7 κ f)=BI c1 c2 c3 c4 c5 c6 c7 (K0 κ) (K1 κ) f)
 | 0=>⟨rfl,rfl,rfl⟩
 | f+1=>by
  obtain ⟨a6,a7,a8⟩:=FO κ f
  refine ⟨?_,?_,?_⟩
  ·funext x0 x1 x2 x3 x4 x5 x6 x7 x8 x9 j m u z A M N O U V W X Y ad ae ap ar ax a1
   show S R c1 c2 c3 c4 c5 c6 c7 κ (G R c1 c2 c3 c4 c5 c6 c7 κ f) 5 _=_
   rw [k5,a7,g15 R c1 c2 c3 c4 c5 c6 c7 κ f]
   rfl
  ·funext x0 x1 x2 x3 x4 x5 x6 x7 x8 x9 j m u z A M N O U V W X Y ad ae ap ar ax a1 bb be bk bs bx bP bS bV b0 b1 b2 b3 b4 b5 b' ca cl cp ct c0 c' dg
   show S R c1 c2 c3 c4 c5 c6 c7 κ (G R c1 c2 c3 c4 c5 c6 c7 κ f) 8 _=_
   rw [k8,a8]
   rfl
  ·funext x0 x1 x2 x3 x4 x5 x6 x7 x8 x9 j m u z A M N O U V W X Y ad ae ap ar ax a1
   show S R c1 c2 c3 c4 c5 c6 c7 κ (G R c1 c2 c3 c4 c5 c6 c7 κ f) 14 _=_
   rw [IK,a6]
   rfl
theorem g5 (κ:KT R) (f:Nat):q5 (G R c1 c2 c3 c4 c5 c6 c7 κ f)=L5 c1 c2 c3 c4 c5 c6 c7 (K0 κ) (K1 κ) f:=(FO R c1 c2 c3 c4 c5 c6 c7 κ f).1
theorem g8 (κ:KT R) (f:Nat):q8 (G R c1 c2 c3 c4 c5 c6 c7 κ f)=L8 c1 c2 c3 c4 c5 c6 c7 (K0 κ) (K1 κ) f:=(FO R c1 c2 c3 c4 c5 c6 c7 κ f).2.1
theorem g14 (κ:KT R) (f:Nat):Fc (G R c1 c2 c3 c4 c5 c6 c7 κ f)=BI c1 c2 c3 c4 c5 c6 c7 (K0 κ) (K1 κ) f:=(FO R c1 c2 c3 c4 c5 c6 c7 κ f).2.2
theorem g2 (κ:KT R):∀ (f:Nat),q2 (G R c1 c2 c3 c4 c5 c6 c7 κ f)=L2 c1 c2 c3 c4 c5 c6 c7 (K0 κ) (K1 κ) f
 | 0=>rfl
 | f+1=>by
  funext x0 x1 x2 x3 x4 x5 x6 x7 x8 x9 j m u z A M N O U V W X Y ad ae ap
  show S R c1 c2 c3 c4 c5 c6 c7 κ (G R c1 c2 c3 c4 c5 c6 c7 κ f) 2 _=_
  rw [k2,g5 R c1 c2 c3 c4 c5 c6 c7 κ f,g15 R c1 c2 c3 c4 c5 c6 c7 κ f]
  rfl
end
theorem ae {R:Type} (tab:cg) (f:ay tab) (n:Nat) (ih:∀ (a0 a1 a2 a3 a4 a5 X Y a8 a9 j m a12 u z A M N O U a20 a21 V W a24:_) (κ:KT R),aa Tryz.prog (ag br) tab 49 [.vp 94 [.str a0,.int .i64 a1],.vp 32 [.str a2,.str a3,.str a4,.ro 129 a5 true,.bool X,.str Y,.bool a8,.str a9,.bool j,.str m,.bool a12,.str u,.ro 129 z true,.ro 9 A true,.bool M,.str N,.int .i64 O,.int .i64 U,.int .i64 a20,.int .i64 a21,.int .i64 V,.nil],.int .i64 W,.bool a24] κ (al.R n a0 a1 a2 a3 a4 a5 X Y a8 a9 j m a12 u z A M N O U a20 a21 V W a24 (K0 κ) (K1 κ))) (g:Nat):bT (R:=R) Tryz.prog (ag br) tab g ((C R aH aE bX an cd aD (al.R n)).call g):=by
 refine aI fun xs κ => ?_
 show aa _ _ _ g xs κ (Γ R aH aE bX an cd aD (al.R n) g xs κ)
 unfold Γ
 split
 ·split
  ·exact aE.aF tab f _ _ _ _ _ κ
  ·exact aa.none
 ·split
  ·exact ih _ _ _ _ _ _ _ _ _ _ _ _ _ _ _ _ _ _ _ _ _ _ _ _ _ κ
  ·exact aa.none
 ·split
  ·exact an.aF tab f _ _ _ _ _ _ _ _ _ _ _ _ _ _ _ _ _ _ _ _ _ _ κ
  ·exact aD.aF tab f _ _ _ _ _ _ _ _ _ _ _ _ _ _ _ _ _ _ _ _ _ _ κ
  ·exact aa.none
 ·split
  ·exact aH.aF tab f _ _ _ _ _ _ _ _ _ _ _ _ _ _ _ _ _ _ _ _ _ _ _ κ
  ·exact aa.none
 ·split
  ·exact cd.aF tab f _ _ _ _ _ _ _ _ _ _ _ _ _ _ _ _ _ _ _ _ _ _ _ _ _ κ
  ·exact aa.none
 ·split
  ·exact bX.aF tab f _ _ κ
  ·exact aa.none
 ·exact aa.none
theorem fW {R:Type} (tab:cg) (ht:ay tab):∀ (n:Nat) (a0 a1 a2 a3 a4 a5 W X Y a9 f j a12 m u z A M N O a20 a21 U V a24:_) (κ:KT R),aa Tryz.prog (ag br) tab 49 [.vp 94 [.str a0,.int .i64 a1],.vp 32 [.str a2,.str a3,.str a4,.ro 129 a5 true,.bool W,.str X,.bool Y,.str a9,.bool f,.str j,.bool a12,.str m,.ro 129 u true,.ro 9 z true,.bool A,.str M,.int .i64 N,.int .i64 O,.int .i64 a20,.int .i64 a21,.int .i64 U,.nil],.int .i64 V,.bool a24] κ (al.R n a0 a1 a2 a3 a4 a5 W X Y a9 f j a12 m u z A M N O a20 a21 U V a24 (K0 κ) (K1 κ))
 | 0,_,_,_,_,_,_,_,_,_,_,_,_,_,_,_,_,_,_,_,_,_,_,_,_,_,_=>aa.none
 | n+1,a0,a1,a2,a3,a4,a5,W,X,Y,a9,f,j,a12,m,u,z,A,M,N,O,a20,a21,U,V,a24,κ=>aj (C:=C R aH aE bX an cd aD (al.R n)) (fn:=Tryz.f49) cE (ae tab ht n (fW tab ht n)) (by kernel_rfl) (by kernel_rfl) (show _=B aH aE bX an cd aD (al.R n) a0 a1 a2 a3 a4 a5 W X Y a9 f j a12 m u z A M N O a20 a21 U V a24 (K0 κ) (K1 κ) by rw [k];rw [g2 R aH aE bX an cd aD (al.R n) κ ah,g5 R aH aE bX an cd aD (al.R n) κ ah,g8 R aH aE bX an cd aD (al.R n) κ ah,g14 R aH aE bX an cd aD (al.R n) κ ah,g15 R aH aE bX an cd aD (al.R n) κ ah];rfl)
theorem aF {R:Type} (tab:cg) (ht:ay tab) (a0 a1 a2 a3 a4 a5 W X Y a9 f j a12 m u z A M N O a20 a21 U V a24:_) (κ:KT R):aa Tryz.prog (ag br) tab 49 [.vp 94 [.str a0,.int .i64 a1],.vp 32 [.str a2,.str a3,.str a4,.ro 129 a5 true,.bool W,.str X,.bool Y,.str a9,.bool f,.str j,.bool a12,.str m,.ro 129 u true,.ro 9 z true,.bool A,.str M,.int .i64 N,.int .i64 O,.int .i64 a20,.int .i64 a21,.int .i64 U,.nil],.int .i64 V,.bool a24] κ (al a0 a1 a2 a3 a4 a5 W X Y a9 f j a12 m u z A M N O a20 a21 U V a24 (K0 κ) (K1 κ)):=fW tab ht ah a0 a1 a2 a3 a4 a5 W X Y a9 f j a12 m u z A M N O a20 a21 U V a24 κ
end al
namespace bh
abbrev K0 {R:Type} (κ:KT R):Q0 R:=fun X Y r2 r3 r4 r5 r6 r7 r8 r9 f j m u z A M N O U V W=>κ [.agg [.str X,.str Y,.str r2,.ro 129 r3 true,.bool r4,.str r5,.bool r6,.str r7,.bool r8,.str r9,.bool f,.str j,.ro 129 m true,.ro 9 u true,.bool z,.str A,.int .i64 M,.int .i64 N,.int .i64 O,.int .i64 U,.int .i64 V,.ro 32 W true]]
section
variable (R:Type) (c1:aE.F R) (c2:al.F R)
def Γ (g:Nat) (xs:List SV) (κ:KT R):Y1 R:=
 match g with
 | 48=>(match xs with
  | [.vp 94 [.str a0,.int .i64 a1],.agg [.int .i64 a2,.int .i64 a3],.bool a4]=>c1 a0 a1 a2 a3 a4 (aE.K0 κ)
  | _=>none)
 | 49=>(match xs with
  | [.vp 94 [.str a0,.int .i64 a1],.vp 32 [.str a2,.str a3,.str a4,.ro 129 a5 true,.bool W,.str X,.bool Y,.str a9,.bool f,.str j,.bool a12,.str m,.ro 129 u true,.ro 9 z true,.bool A,.str M,.int .i64 N,.int .i64 O,.int .i64 a20,.int .i64 a21,.int .i64 U,.nil],.int .i64 V,.bool a24]=>c2 a0 a1 a2 a3 a4 a5 W X Y a9 f j a12 m u z A M N O a20 a21 U V a24 (al.K0 κ) (al.K1 κ)
  | _=>none)
 | _=>none
def h (n:Nat):Option (List (Nat × List (Nat × Nat))):=
 match n with
 | 4=>some [(2,[(0,0)]),(4,[(3,131),(3,1),(12,131),(12,1),(13,11),(13,1),(21,34),(21,1)])]
 | _=>none
def C:Cfg R:=⟨ag br,Γ R c1 c2,fun _=>false,h,0,fun _=>false⟩
noncomputable def S:=S0 (C R c1 c2) Tryz.f14 0
noncomputable def G:=G0 (C R c1 c2) Tryz.f14 0
def s4:=fun x0 x1 x2 x3 x4 x5 x6 x7 x8 x9 f j m u z A M N O U V W X Y ad ae ap ar ax a1 a6 a7 a8 bb be bk bs bx bP bS=>(⟨eA 16 [(2,.ptr 255 0),(4,.ptr 383 0)],[(255,.var 32 [.str x0,.str x1,.str x2,.nil,.bool x3,.str x4,.bool x5,.str x6,.bool x7,.str x8,.bool x9,.str f,.nil,.nil,.bool j,.str m,.int .i64 u,.int .i64 z,.int .i64 A,.int .i64 M,.int .i64 N,.nil]),(383,.var 32 [.str O,.str U,.str V,.ro 129 W true,.bool X,.str Y,.bool ad,.str ae,.bool ap,.str ar,.bool ax,.str a1,.ro 129 a6 true,.ro 9 a7 true,.bool a8,.str bb,.int .i64 be,.int .i64 bk,.int .i64 bs,.int .i64 bx,.int .i64 bP,.ro 32 bS true])],ez⟩:St)
noncomputable abbrev q4 {R:Type} (J:JT R):J4 R:=fun x0 x1 x2 x3 x4 x5 x6 x7 x8 x9 f j m u z A M N O U V W X Y ad ae ap ar ax a1 a6 a7 a8 bb be bk bs bx bP bS=>J (placeOf Tryz.f14 4) (s4 x0 x1 x2 x3 x4 x5 x6 x7 x8 x9 f j m u z A M N O U V W X Y ad ae ap ar ax a1 a6 a7 a8 bb be bk bs bx bP bS)
theorem k4 (J:JT R) (κ:KT R) (x0 x1 x2 x3 x4 x5 x6 x7 x8 x9 f j m u z A M N O U V W X Y ad ae ap ar ax a1 a6 a7 a8 bb be bk bs bx bP bS:_):S R c1 c2 κ J 4 (s4 x0 x1 x2 x3 x4 x5 x6 x7 x8 x9 f j m u z A M N O U V W X Y ad ae ap ar ax a1 a6 a7 a8 bb be bk bs bx bP bS)=t4 (K0 κ) x0 x1 x2 x3 x4 x5 x6 x7 x8 x9 f j m u z A M N O U V W X Y ad ae ap ar ax a1 a6 a7 a8 bb be bk bs bx bP bS:=by kernel_rfl
theorem k (κ:KT R) (k:Nat) (a0:_):cA (C R c1 c2) Tryz.f14 10000 k [.str a0] κ=bh.e c1 c2 a0 (q4 (G R c1 c2 κ k)) (K0 κ):=by kernel_rfl
theorem g4 (κ:KT R):∀ (f:Nat),q4 (G R c1 c2 κ f)=L4 c1 c2 (K0 κ) f
 | 0=>rfl
 | f+1=>by
  funext x0 x1 x2 x3 x4 x5 x6 x7 x8 x9 j m u z A M N O U V W X Y ad ae ap ar ax a1 a6 a7 a8 bb be bk bs bx bP bS bV
  show S R c1 c2 κ (G R c1 c2 κ f) 4 _=_
  rw [k4]
  rfl
end
theorem ae {R:Type} (tab:cg) (f:ay tab) (g:Nat):bT (R:=R) Tryz.prog (ag br) tab g ((C R aE al).call g):=by
 refine aI fun xs κ => ?_
 show aa _ _ _ g xs κ (Γ R aE al g xs κ)
 unfold Γ
 split
 ·split
  ·exact aE.aF tab f _ _ _ _ _ κ
  ·exact aa.none
 ·split
  ·exact al.aF tab f _ _ _ _ _ _ _ _ _ _ _ _ _ _ _ _ _ _ _ _ _ _ _ _ _ κ
  ·exact aa.none
 ·exact aa.none
theorem aF {R:Type} (tab:cg) (f:ay tab) (a0:_) (κ:KT R):aa Tryz.prog (ag br) tab 14 [.str a0] κ (bh a0 (K0 κ)):=aj (C:=C R aE al) (fn:=Tryz.f14) cE (ae tab f) (by kernel_rfl) (by kernel_rfl) (by rw [k];rw [g4 R aE al κ ah];rfl)
end bh
namespace dE
abbrev K0 {R:Type} (κ:KT R):BA->Y1 R:=fun f=>κ [.str f]
section
variable (R:Type)
def Γ (g:Nat) (xs:List SV) (κ:KT R):Y1 R:=
 match g with
 | _=>none
def h (n:Nat):Option (List (Nat × List (Nat × Nat))):=
 match n with
 | _=>none
def C:Cfg R:=⟨ag br,Γ R,fun _=>false,h,0,fun _=>false⟩
theorem k (κ:KT R) (k:Nat) (a0 a1 a2:_):cA (C R) Tryz.f46 10000 k [.str a0,.int .i64 a1,.int .i64 a2] κ=dE.e a0 a1 a2 (K0 κ):=by kernel_rfl
end
theorem ae {R:Type} (tab:cg) (f:ay tab) (g:Nat):bT (R:=R) Tryz.prog (ag br) tab g ((C R).call g):=by
 refine aI fun xs κ => ?_
 show aa _ _ _ g xs κ (Γ R g xs κ)
 unfold Γ
 split
 ·exact aa.none
theorem aF {R:Type} (tab:cg) (f:ay tab) (a0 a1 a2:_) (κ:KT R):aa Tryz.prog (ag br) tab 46 [.str a0,.int .i64 a1,.int .i64 a2] κ (dE a0 a1 a2 (K0 κ)):=aj (C:=C R) (fn:=Tryz.f46) cE (ae tab f) (by kernel_rfl) (by kernel_rfl) (by rw [k];rfl)
end dE
namespace b8
abbrev K0 {R:Type} (κ:KT R):Y3->Y1 R:=fun f=>κ [.bool f]
section
variable (R:Type) (c1:bh.F R) (c2:dE.F R)
def Γ (g:Nat) (xs:List SV) (κ:KT R):Y1 R:=
 match g with
 | 14=>(match xs with
  | [.str a0]=>c1 a0 (bh.K0 κ)
  | _=>none)
 | 46=>(match xs with
  | [.str a0,.int .i64 a1,.int .i64 a2]=>c2 a0 a1 a2 (dE.K0 κ)
  | _=>none)
 | _=>none
def h (n:Nat):Option (List (Nat × List (Nat × Nat))):=
 match n with
 | _=>none
def C:Cfg R:=⟨ag br,Γ R c1 c2,fun _=>false,h,0,fun _=>false⟩
theorem k (κ:KT R) (k:Nat):cA (C R c1 c2) Tryz.f12 10000 k [] κ=b8.e c1 c2 (K0 κ):=by kernel_rfl
end
theorem ae {R:Type} (tab:cg) (f:ay tab) (g:Nat):bT (R:=R) Tryz.prog (ag br) tab g ((C R bh dE).call g):=by
 refine aI fun xs κ => ?_
 show aa _ _ _ g xs κ (Γ R bh dE g xs κ)
 unfold Γ
 split
 ·split
  ·exact bh.aF tab f _ κ
  ·exact aa.none
 ·split
  ·exact dE.aF tab f _ _ _ κ
  ·exact aa.none
 ·exact aa.none
theorem aF {R:Type} (tab:cg) (f:ay tab) (κ:KT R):aa Tryz.prog (ag br) tab 12 [] κ (b8 (K0 κ)):=aj (C:=C R bh dE) (fn:=Tryz.f12) cE (ae tab f) (by kernel_rfl) (by kernel_rfl) (by rw [k];rfl)
end b8
namespace bE
abbrev K0 {R:Type} (κ:KT R):LA->Y1 R:=fun f=>κ [.fr 9 f true]
section
variable (R:Type)
def Γ (g:Nat) (xs:List SV) (κ:KT R):Y1 R:=
 match g with
 | _=>none
def h (n:Nat):Option (List (Nat × List (Nat × Nat))):=
 match n with
 | 4=>some [(0,[(0,0)]),(3,[(0,11)]),(4,[(0,0)]),(5,[(0,0)])]
 | _=>none
def C:Cfg R:=⟨ag br,Γ R,fun _=>false,h,0,fun _=>false⟩
noncomputable def S:=S0 (C R) Tryz.f142 0
noncomputable def G:=G0 (C R) Tryz.f142 0
def s4:=fun x0 f j m=>(⟨eA 47 [(0,.str x0),(3,.own 256),(4,.int .i64 f),(5,.int .i64 j)],[(256,.row 9 m true)],ez⟩:St)
noncomputable abbrev q4 {R:Type} (J:JT R):J4 R:=fun x0 f j m=>J (placeOf Tryz.f142 4) (s4 x0 f j m)
theorem k4 (J:JT R) (κ:KT R) (x0 f j m:_):S R κ J 4 (s4 x0 f j m)=t4 (q4 J) (K0 κ) x0 f j m:=by kernel_rfl
theorem k (κ:KT R) (k:Nat) (a0:_):cA (C R) Tryz.f142 10000 k [.str a0] κ=bE.e a0 (q4 (G R κ k)) (K0 κ):=by kernel_rfl
theorem g4 (κ:KT R):∀ (f:Nat),q4 (G R κ f)=L4 (K0 κ) f
 | 0=>rfl
 | f+1=>by
  funext x0 j m u
  show S R κ (G R κ f) 4 _=_
  rw [k4,g4 κ f]
  rfl
end
theorem ae {R:Type} (tab:cg) (f:ay tab) (g:Nat):bT (R:=R) Tryz.prog (ag br) tab g ((C R).call g):=by
 refine aI fun xs κ => ?_
 show aa _ _ _ g xs κ (Γ R g xs κ)
 unfold Γ
 split
 ·exact aa.none
theorem aF {R:Type} (tab:cg) (f:ay tab) (a0:_) (κ:KT R):aa Tryz.prog (ag br) tab 142 [.str a0] κ (bE a0 (K0 κ)):=aj (C:=C R) (fn:=Tryz.f142) cE (ae tab f) (by kernel_rfl) (by kernel_rfl) (by rw [k];rw [g4 R κ ah];rfl)
end bE
namespace cP
abbrev K0 {R:Type} (κ:KT R):BA->BA->Y1 R:=fun f j=>κ [.tup [.str f,.str j]]
section
variable (R:Type) (c1:bE.F R)
def Γ (g:Nat) (xs:List SV) (κ:KT R):Y1 R:=
 match g with
 | 142=>(match xs with
  | [.str a0]=>c1 a0 (bE.K0 κ)
  | _=>none)
 | _=>none
def h (n:Nat):Option (List (Nat × List (Nat × Nat))):=
 match n with
 | 4=>some [(0,[(0,0)]),(4,[(0,0)]),(5,[(0,0)]),(6,[(0,0)])]
 | _=>none
def C:Cfg R:=⟨ag br,Γ R c1,fun _=>false,h,0,fun _=>false⟩
noncomputable def S:=S0 (C R c1) Tryz.f97 0
noncomputable def G:=G0 (C R c1) Tryz.f97 0
def s4:=fun x0 f j m=>(⟨eA 34 [(0,.str x0),(4,.int .i64 f),(5,.own 384),(6,.int .i64 j)],[(384,.row 9 m true)],ez⟩:St)
noncomputable abbrev q4 {R:Type} (J:JT R):J4 R:=fun x0 f j m=>J (placeOf Tryz.f97 4) (s4 x0 f j m)
theorem k4 (J:JT R) (κ:KT R) (x0 f j m:_):S R c1 κ J 4 (s4 x0 f j m)=t4 (q4 J) (K0 κ) x0 f j m:=by kernel_rfl
theorem k (κ:KT R) (k:Nat) (a0:_):cA (C R c1) Tryz.f97 10000 k [.str a0] κ=cP.e c1 a0 (q4 (G R c1 κ k)) (K0 κ):=by kernel_rfl
theorem g4 (κ:KT R):∀ (f:Nat),q4 (G R c1 κ f)=L4 c1 (K0 κ) f
 | 0=>rfl
 | f+1=>by
  funext x0 j m u
  show S R c1 κ (G R c1 κ f) 4 _=_
  rw [k4,g4 κ f]
  rfl
end
theorem ae {R:Type} (tab:cg) (f:ay tab) (g:Nat):bT (R:=R) Tryz.prog (ag br) tab g ((C R bE).call g):=by
 refine aI fun xs κ => ?_
 show aa _ _ _ g xs κ (Γ R bE g xs κ)
 unfold Γ
 split
 ·split
  ·exact bE.aF tab f _ κ
  ·exact aa.none
 ·exact aa.none
theorem aF {R:Type} (tab:cg) (f:ay tab) (a0:_) (κ:KT R):aa Tryz.prog (ag br) tab 97 [.str a0] κ (cP a0 (K0 κ)):=aj (C:=C R bE) (fn:=Tryz.f97) cE (ae tab f) (by kernel_rfl) (by kernel_rfl) (by rw [k];rw [g4 R bE κ ah];rfl)
end cP
namespace aS
abbrev K0 {R:Type} (κ:KT R):Y3->Y1 R:=fun f=>κ [.bool f]
section
variable (R:Type)
def Γ (g:Nat) (xs:List SV) (κ:KT R):Y1 R:=
 match g with
 | _=>none
def h (n:Nat):Option (List (Nat × List (Nat × Nat))):=
 match n with
 | _=>none
def C:Cfg R:=⟨ag br,Γ R,fun _=>false,h,0,fun _=>false⟩
theorem k (κ:KT R) (k:Nat) (a0:_):cA (C R) Tryz.f154 10000 k [.int .u8 a0] κ=aS.e a0 (K0 κ):=by kernel_rfl
end
theorem ae {R:Type} (tab:cg) (f:ay tab) (g:Nat):bT (R:=R) Tryz.prog (ag br) tab g ((C R).call g):=by
 refine aI fun xs κ => ?_
 show aa _ _ _ g xs κ (Γ R g xs κ)
 unfold Γ
 split
 ·exact aa.none
theorem aF {R:Type} (tab:cg) (f:ay tab) (a0:_) (κ:KT R):aa Tryz.prog (ag br) tab 154 [.int .u8 a0] κ (aS a0 (K0 κ)):=aj (C:=C R) (fn:=Tryz.f154) cE (ae tab f) (by kernel_rfl) (by kernel_rfl) (by rw [k];rfl)
end aS
namespace b7
abbrev K0 {R:Type} (κ:KT R):Int->Int->Y1 R:=fun f j=>κ [.tup [.int .i64 f,.int .i64 j]]
section
variable (R:Type) (c1:aS.F R)
def Γ (g:Nat) (xs:List SV) (κ:KT R):Y1 R:=
 match g with
 | 154=>(match xs with
  | [.int .u8 a0]=>c1 a0 (aS.K0 κ)
  | _=>none)
 | _=>none
def h (n:Nat):Option (List (Nat × List (Nat × Nat))):=
 match n with
 | 2=>some [(0,[(0,0)]),(4,[(0,0)])]
 | 5=>some [(0,[(0,0)]),(4,[(0,0)]),(5,[(0,0)])]
 | _=>none
def C:Cfg R:=⟨ag br,Γ R c1,fun _=>false,h,0,fun _=>false⟩
noncomputable def S:=S0 (C R c1) Tryz.f155 0
noncomputable def G:=G0 (C R c1) Tryz.f155 0
def s2:=fun x0 f=>(⟨eA 59 [(0,.str x0),(4,.int .i64 f)],[],ez⟩:St)
def s5:=fun x0 f j=>(⟨eA 59 [(0,.str x0),(4,.int .i64 f),(5,.int .i64 j)],[],ez⟩:St)
noncomputable abbrev q2 {R:Type} (J:JT R):BA->Int->Y1 R:=fun x0 f=>J (placeOf Tryz.f155 2) (s2 x0 f)
noncomputable abbrev q5 {R:Type} (J:JT R):J5 R:=fun x0 f j=>J (placeOf Tryz.f155 5) (s5 x0 f j)
theorem k2 (J:JT R) (κ:KT R) (x0 f:_):S R c1 κ J 2 (s2 x0 f)=t2 (q2 J) (q5 J) x0 f:=by kernel_rfl
theorem k5 (J:JT R) (κ:KT R) (x0 f j:_):S R c1 κ J 5 (s5 x0 f j)=t5 c1 (q5 J) (K0 κ) x0 f j:=by kernel_rfl
theorem k (κ:KT R) (k:Nat) (a0:_):cA (C R c1) Tryz.f155 10000 k [.str a0] κ=b7.e c1 a0 (q2 (G R c1 κ k)) (q5 (G R c1 κ k)) (K0 κ):=by kernel_rfl
theorem g5 (κ:KT R):∀ (f:Nat),q5 (G R c1 κ f)=L5 c1 (K0 κ) f
 | 0=>rfl
 | f+1=>by
  funext x0 j m
  show S R c1 κ (G R c1 κ f) 5 _=_
  rw [k5,g5 κ f]
  rfl
theorem g2 (κ:KT R):∀ (f:Nat),q2 (G R c1 κ f)=L2 c1 (K0 κ) f
 | 0=>rfl
 | f+1=>by
  funext x0 j
  show S R c1 κ (G R c1 κ f) 2 _=_
  rw [k2,g2 κ f,g5 R c1 κ f]
  rfl
end
theorem ae {R:Type} (tab:cg) (f:ay tab) (g:Nat):bT (R:=R) Tryz.prog (ag br) tab g ((C R aS).call g):=by
 refine aI fun xs κ => ?_
 show aa _ _ _ g xs κ (Γ R aS g xs κ)
 unfold Γ
 split
 ·split
  ·exact aS.aF tab f _ κ
  ·exact aa.none
 ·exact aa.none
theorem aF {R:Type} (tab:cg) (f:ay tab) (a0:_) (κ:KT R):aa Tryz.prog (ag br) tab 155 [.str a0] κ (b7 a0 (K0 κ)):=aj (C:=C R aS) (fn:=Tryz.f155) cE (ae tab f) (by kernel_rfl) (by kernel_rfl) (by rw [k];rw [g2 R aS κ ah,g5 R aS κ ah];rfl)
end b7
namespace bU
abbrev K0 {R:Type} (κ:KT R):BA->Y1 R:=fun f=>κ [.str f]
section
variable (R:Type)
def Γ (g:Nat) (xs:List SV) (κ:KT R):Y1 R:=
 match g with
 | _=>none
def h (n:Nat):Option (List (Nat × List (Nat × Nat))):=
 match n with
 | _=>none
def C:Cfg R:=⟨ag br,Γ R,fun _=>false,h,0,fun _=>false⟩
theorem k (κ:KT R) (k:Nat) (a0:_):cA (C R) Tryz.f117 10000 k [.str a0] κ=bU.e a0 (K0 κ):=by kernel_rfl
end
theorem ae {R:Type} (tab:cg) (f:ay tab) (g:Nat):bT (R:=R) Tryz.prog (ag br) tab g ((C R).call g):=by
 refine aI fun xs κ => ?_
 show aa _ _ _ g xs κ (Γ R g xs κ)
 unfold Γ
 split
 ·exact aa.none
theorem aF {R:Type} (tab:cg) (f:ay tab) (a0:_) (κ:KT R):aa Tryz.prog (ag br) tab 117 [.str a0] κ (bU a0 (K0 κ)):=aj (C:=C R) (fn:=Tryz.f117) cE (ae tab f) (by kernel_rfl) (by kernel_rfl) (by rw [k];rfl)
end bU
namespace bW
abbrev K0 {R:Type} (κ:KT R):LA->Y1 R:=fun f=>κ [.fr 168 f true]
section
variable (R:Type) (c1:bE.F R) (c2:aS.F R) (c3:bU.F R) (c4:b7.F R)
def Γ (g:Nat) (xs:List SV) (κ:KT R):Y1 R:=
 match g with
 | 117=>(match xs with
  | [.str a0]=>c3 a0 (bU.K0 κ)
  | _=>none)
 | 142=>(match xs with
  | [.str a0]=>c1 a0 (bE.K0 κ)
  | _=>none)
 | 154=>(match xs with
  | [.int .u8 a0]=>c2 a0 (aS.K0 κ)
  | _=>none)
 | 155=>(match xs with
  | [.str a0]=>c4 a0 (b7.K0 κ)
  | _=>none)
 | _=>none
def h (n:Nat):Option (List (Nat × List (Nat × Nat))):=
 match n with
 | 4=>some [(3,[(0,170)]),(4,[(0,0)]),(5,[(0,0)])]
 | 5=>some [(3,[(0,0)]),(4,[(0,0)]),(5,[(0,0)])]
 | 11=>some [(3,[(0,0)]),(4,[(0,0)]),(5,[(0,0)]),(6,[(0,0)])]
 | _=>none
def C:Cfg R:=⟨ag br,Γ R c1 c2 c3 c4,fun _=>false,h,0,fun _=>false⟩
noncomputable def S:=S0 (C R c1 c2 c3 c4) Tryz.f115 0
noncomputable def G:=G0 (C R c1 c2 c3 c4) Tryz.f115 0
def s4:=fun x0 f j=>(⟨eA 93 [(3,.own 256),(4,.own 320),(5,.int .i64 x0)],[(256,.row 168 f true),(320,.row 9 j true)],ez⟩:St)
def s5:=fun x0 f j=>(⟨eA 93 [(3,.own 256),(4,.own 320),(5,.int .i64 x0)],[(256,.row 168 f true),(320,.row 9 j true)],ez⟩:St)
def F9:=fun x0 f j m=>(⟨eA 93 [(3,.own 256),(4,.own 320),(5,.int .i64 x0),(6,.str f)],[(256,.row 168 j true),(320,.row 9 m true)],ez⟩:St)
noncomputable abbrev q4 {R:Type} (J:JT R):J4 R:=fun x0 f j=>J (placeOf Tryz.f115 4) (s4 x0 f j)
noncomputable abbrev q5 {R:Type} (J:JT R):J5 R:=fun x0 f j=>J (placeOf Tryz.f115 5) (s5 x0 f j)
noncomputable abbrev BO {R:Type} (J:JT R):u5 R:=fun x0 f j m=>J (placeOf Tryz.f115 11) (F9 x0 f j m)
theorem k4 (J:JT R) (κ:KT R) (x0 f j:_):S R c1 c2 c3 c4 κ J 4 (s4 x0 f j)=t4 c2 c3 (q5 J) (BO J) (K0 κ) x0 f j:=by kernel_rfl
theorem k5 (J:JT R) (κ:KT R) (x0 f j:_):S R c1 c2 c3 c4 κ J 5 (s5 x0 f j)=t5 (q4 J) x0 f j:=by kernel_rfl
theorem HM (J:JT R) (κ:KT R) (x0 f j m:_):S R c1 c2 c3 c4 κ J 11 (F9 x0 f j m)=t11 c2 c3 c4 (q5 J) x0 f j m:=by kernel_rfl
theorem k (κ:KT R) (k:Nat) (a0:_):cA (C R c1 c2 c3 c4) Tryz.f115 10000 k [.str a0] κ=bW.e c1 c2 c3 c4 a0 (q4 (G R c1 c2 c3 c4 κ k)) (q5 (G R c1 c2 c3 c4 κ k)) (BO (G R c1 c2 c3 c4 κ k)) (K0 κ):=by kernel_rfl
theorem zo (κ:KT R):∀ (f:Nat),(q4 (G R c1 c2 c3 c4 κ f)=L4 c1 c2 c3 c4 (K0 κ) f)/\(q5 (G R c1 c2 c3 c4 κ f)=L5 c1 c2 c3 c4 (K0 κ) f)/\(BO (G R c1 c2 c3 c4 κ f)=tL c1 c2 c3 c4 (K0 κ) f)
 | 0=>⟨rfl,rfl,rfl⟩
 | f+1=>by
  obtain ⟨m,j,u⟩:=zo κ f
  refine ⟨?_,?_,?_⟩
  ·funext x0 z A
   show S R c1 c2 c3 c4 κ (G R c1 c2 c3 c4 κ f) 4 _=_
   rw [k4,j,u]
   rfl
  ·funext x0 z A
   show S R c1 c2 c3 c4 κ (G R c1 c2 c3 c4 κ f) 5 _=_
   rw [k5,m]
   rfl
  ·funext x0 z A M
   show S R c1 c2 c3 c4 κ (G R c1 c2 c3 c4 κ f) 11 _=_
   rw [HM,j]
   rfl
theorem g4 (κ:KT R) (f:Nat):q4 (G R c1 c2 c3 c4 κ f)=L4 c1 c2 c3 c4 (K0 κ) f:=(zo R c1 c2 c3 c4 κ f).1
theorem g5 (κ:KT R) (f:Nat):q5 (G R c1 c2 c3 c4 κ f)=L5 c1 c2 c3 c4 (K0 κ) f:=(zo R c1 c2 c3 c4 κ f).2.1
theorem g11 (κ:KT R) (f:Nat):BO (G R c1 c2 c3 c4 κ f)=tL c1 c2 c3 c4 (K0 κ) f:=(zo R c1 c2 c3 c4 κ f).2.2
end
theorem ae {R:Type} (tab:cg) (f:ay tab) (g:Nat):bT (R:=R) Tryz.prog (ag br) tab g ((C R bE aS bU b7).call g):=by
 refine aI fun xs κ => ?_
 show aa _ _ _ g xs κ (Γ R bE aS bU b7 g xs κ)
 unfold Γ
 split
 ·split
  ·exact bU.aF tab f _ κ
  ·exact aa.none
 ·split
  ·exact bE.aF tab f _ κ
  ·exact aa.none
 ·split
  ·exact aS.aF tab f _ κ
  ·exact aa.none
 ·split
  ·exact b7.aF tab f _ κ
  ·exact aa.none
 ·exact aa.none
theorem aF {R:Type} (tab:cg) (f:ay tab) (a0:_) (κ:KT R):aa Tryz.prog (ag br) tab 115 [.str a0] κ (bW a0 (K0 κ)):=aj (C:=C R bE aS bU b7) (fn:=Tryz.f115) cE (ae tab f) (by kernel_rfl) (by kernel_rfl) (by rw [k];rw [g4 R bE aS bU b7 κ ah,g5 R bE aS bU b7 κ ah,g11 R bE aS bU b7 κ ah];rfl)
end bW
namespace de
abbrev K0 {R:Type} (κ:KT R):BA->Y1 R:=fun f=>κ [.str f]
section
variable (R:Type) (c1:aS.F R)
def Γ (g:Nat) (xs:List SV) (κ:KT R):Y1 R:=
 match g with
 | 154=>(match xs with
  | [.int .u8 a0]=>c1 a0 (aS.K0 κ)
  | _=>none)
 | _=>none
def h (n:Nat):Option (List (Nat × List (Nat × Nat))):=
 match n with
 | 1=>some [(0,[(0,0)])]
 | 3=>some [(0,[(0,0)])]
 | _=>none
def C:Cfg R:=⟨ag br,Γ R c1,fun _=>false,h,0,fun _=>false⟩
noncomputable def S:=S0 (C R c1) Tryz.f126 0
noncomputable def G:=G0 (C R c1) Tryz.f126 0
def s1:=fun x0=>(⟨eA 30 [(0,.str x0)],[],ez⟩:St)
def s3:=fun x0=>(⟨eA 30 [(0,.str x0)],[],ez⟩:St)
noncomputable abbrev q1 {R:Type} (J:JT R):BA->Y1 R:=fun x0=>J (placeOf Tryz.f126 1) (s1 x0)
noncomputable abbrev q3 {R:Type} (J:JT R):BA->Y1 R:=fun x0=>J (placeOf Tryz.f126 3) (s3 x0)
theorem k1 (J:JT R) (κ:KT R) (x0:_):S R c1 κ J 1 (s1 x0)=t1 c1 (q1 J) (q3 J) x0:=by kernel_rfl
theorem k3 (J:JT R) (κ:KT R) (x0:_):S R c1 κ J 3 (s3 x0)=t3 c1 (q3 J) (K0 κ) x0:=by kernel_rfl
theorem k (κ:KT R) (k:Nat) (a0:_):cA (C R c1) Tryz.f126 10000 k [.str a0] κ=de.e c1 a0 (q1 (G R c1 κ k)) (q3 (G R c1 κ k)) (K0 κ):=by kernel_rfl
theorem g3 (κ:KT R):∀ (f:Nat),q3 (G R c1 κ f)=L3 c1 (K0 κ) f
 | 0=>rfl
 | f+1=>by
  funext x0
  show S R c1 κ (G R c1 κ f) 3 _=_
  rw [k3,g3 κ f]
  rfl
theorem g1 (κ:KT R):∀ (f:Nat),q1 (G R c1 κ f)=L1 c1 (K0 κ) f
 | 0=>rfl
 | f+1=>by
  funext x0
  show S R c1 κ (G R c1 κ f) 1 _=_
  rw [k1,g1 κ f,g3 R c1 κ f]
  rfl
end
theorem ae {R:Type} (tab:cg) (f:ay tab) (g:Nat):bT (R:=R) Tryz.prog (ag br) tab g ((C R aS).call g):=by
 refine aI fun xs κ => ?_
 show aa _ _ _ g xs κ (Γ R aS g xs κ)
 unfold Γ
 split
 ·split
  ·exact aS.aF tab f _ κ
  ·exact aa.none
 ·exact aa.none
theorem aF {R:Type} (tab:cg) (f:ay tab) (a0:_) (κ:KT R):aa Tryz.prog (ag br) tab 126 [.str a0] κ (de a0 (K0 κ)):=aj (C:=C R aS) (fn:=Tryz.f126) cE (ae tab f) (by kernel_rfl) (by kernel_rfl) (by rw [k];rw [g1 R aS κ ah,g3 R aS κ ah];rfl)
end de
namespace cr
abbrev K0 {R:Type} (κ:KT R):LA->Y1 R:=fun f=>κ [.fr 168 f true]
section
variable (R:Type) (c1:bW.F R) (c2:de.F R)
def Γ (g:Nat) (xs:List SV) (κ:KT R):Y1 R:=
 match g with
 | 115=>(match xs with
  | [.str a0]=>c1 a0 (bW.K0 κ)
  | _=>none)
 | 126=>(match xs with
  | [.str a0]=>c2 a0 (de.K0 κ)
  | _=>none)
 | _=>none
def h (n:Nat):Option (List (Nat × List (Nat × Nat))):=
 match n with
 | 4=>some [(3,[(0,170)]),(4,[(0,0)]),(5,[(0,0)])]
 | _=>none
def C:Cfg R:=⟨ag br,Γ R c1 c2,fun _=>false,h,0,fun _=>false⟩
noncomputable def S:=S0 (C R c1 c2) Tryz.f83 0
noncomputable def G:=G0 (C R c1 c2) Tryz.f83 0
def s4:=fun x0 f j=>(⟨eA 39 [(3,.own 256),(4,.own 320),(5,.int .i64 x0)],[(256,.row 168 f true),(320,.row 168 j true)],ez⟩:St)
noncomputable abbrev q4 {R:Type} (J:JT R):J4 R:=fun x0 f j=>J (placeOf Tryz.f83 4) (s4 x0 f j)
theorem k4 (J:JT R) (κ:KT R) (x0 f j:_):S R c1 c2 κ J 4 (s4 x0 f j)=t4 c2 (q4 J) (K0 κ) x0 f j:=by kernel_rfl
theorem k (κ:KT R) (k:Nat) (a0:_):cA (C R c1 c2) Tryz.f83 10000 k [.str a0] κ=cr.e c1 c2 a0 (q4 (G R c1 c2 κ k)) (K0 κ):=by kernel_rfl
theorem g4 (κ:KT R):∀ (f:Nat),q4 (G R c1 c2 κ f)=L4 c1 c2 (K0 κ) f
 | 0=>rfl
 | f+1=>by
  funext x0 j m
  show S R c1 c2 κ (G R c1 c2 κ f) 4 _=_
  rw [k4,g4 κ f]
  rfl
end
theorem ae {R:Type} (tab:cg) (f:ay tab) (g:Nat):bT (R:=R) Tryz.prog (ag br) tab g ((C R bW de).call g):=by
 refine aI fun xs κ => ?_
 show aa _ _ _ g xs κ (Γ R bW de g xs κ)
 unfold Γ
 split
 ·split
  ·exact bW.aF tab f _ κ
  ·exact aa.none
 ·split
  ·exact de.aF tab f _ κ
  ·exact aa.none
 ·exact aa.none
theorem aF {R:Type} (tab:cg) (f:ay tab) (a0:_) (κ:KT R):aa Tryz.prog (ag br) tab 83 [.str a0] κ (cr a0 (K0 κ)):=aj (C:=C R bW de) (fn:=Tryz.f83) cE (ae tab f) (by kernel_rfl) (by kernel_rfl) (by rw [k];rw [g4 R bW de κ ah];rfl)
end cr
namespace dx
abbrev K0 {R:Type} (κ:KT R):BA->Y1 R:=fun f=>κ [.str f]
section
variable (R:Type)
def Γ (g:Nat) (xs:List SV) (κ:KT R):Y1 R:=
 match g with
 | _=>none
def h (n:Nat):Option (List (Nat × List (Nat × Nat))):=
 match n with
 | 3=>some [(0,[(0,0)]),(3,[(0,7)]),(4,[(0,0)])]
 | _=>none
def C:Cfg R:=⟨ag br,Γ R,fun _=>false,h,0,fun _=>false⟩
noncomputable def S:=S0 (C R) Tryz.f156 0
noncomputable def G:=G0 (C R) Tryz.f156 0
def s3:=fun x0 f j=>(⟨eA 29 [(0,.str x0),(3,.own 256),(4,.int .i64 f)],[(256,.row 5 j true)],ez⟩:St)
noncomputable abbrev q3 {R:Type} (J:JT R):J3 R:=fun x0 f j=>J (placeOf Tryz.f156 3) (s3 x0 f j)
theorem k3 (J:JT R) (κ:KT R) (x0 f j:_):S R κ J 3 (s3 x0 f j)=t3 (q3 J) (K0 κ) x0 f j:=by kernel_rfl
theorem k (κ:KT R) (k:Nat) (a0:_):cA (C R) Tryz.f156 10000 k [.str a0] κ=dx.e a0 (q3 (G R κ k)) (K0 κ):=by kernel_rfl
theorem g3 (κ:KT R):∀ (f:Nat),q3 (G R κ f)=L3 (K0 κ) f
 | 0=>rfl
 | f+1=>by
  funext x0 j m
  show S R κ (G R κ f) 3 _=_
  rw [k3,g3 κ f]
  rfl
end
theorem ae {R:Type} (tab:cg) (f:ay tab) (g:Nat):bT (R:=R) Tryz.prog (ag br) tab g ((C R).call g):=by
 refine aI fun xs κ => ?_
 show aa _ _ _ g xs κ (Γ R g xs κ)
 unfold Γ
 split
 ·exact aa.none
theorem aF {R:Type} (tab:cg) (f:ay tab) (a0:_) (κ:KT R):aa Tryz.prog (ag br) tab 156 [.str a0] κ (dx a0 (K0 κ)):=aj (C:=C R) (fn:=Tryz.f156) cE (ae tab f) (by kernel_rfl) (by kernel_rfl) (by rw [k];rw [g3 R κ ah];rfl)
end dx
namespace cw
abbrev K0 {R:Type} (κ:KT R):Y3->Y1 R:=fun f=>κ [.bool f]
section
variable (R:Type) (c1:dx.F R)
def Γ (g:Nat) (xs:List SV) (κ:KT R):Y1 R:=
 match g with
 | 156=>(match xs with
  | [.str a0]=>c1 a0 (dx.K0 κ)
  | _=>none)
 | _=>none
def h (n:Nat):Option (List (Nat × List (Nat × Nat))):=
 match n with
 | _=>none
def C:Cfg R:=⟨ag br,Γ R c1,fun _=>false,h,0,fun _=>false⟩
theorem k (κ:KT R) (k:Nat) (a0 a1:_):cA (C R c1) Tryz.f116 10000 k [.str a0,.str a1] κ=cw.e c1 a0 a1 (K0 κ):=by kernel_rfl
end
theorem ae {R:Type} (tab:cg) (f:ay tab) (g:Nat):bT (R:=R) Tryz.prog (ag br) tab g ((C R dx).call g):=by
 refine aI fun xs κ => ?_
 show aa _ _ _ g xs κ (Γ R dx g xs κ)
 unfold Γ
 split
 ·split
  ·exact dx.aF tab f _ κ
  ·exact aa.none
 ·exact aa.none
theorem aF {R:Type} (tab:cg) (f:ay tab) (a0 a1:_) (κ:KT R):aa Tryz.prog (ag br) tab 116 [.str a0,.str a1] κ (cw a0 a1 (K0 κ)):=aj (C:=C R dx) (fn:=Tryz.f116) cE (ae tab f) (by kernel_rfl) (by kernel_rfl) (by rw [k];rfl)
end cw
namespace dA
abbrev K0 {R:Type} (κ:KT R):Y3->BA->Y1 R:=fun f j=>κ [.agg [.bool f,.str j]]
section
variable (R:Type) (c1:cw.F R)
def Γ (g:Nat) (xs:List SV) (κ:KT R):Y1 R:=
 match g with
 | 116=>(match xs with
  | [.str a0,.str a1]=>c1 a0 a1 (cw.K0 κ)
  | _=>none)
 | _=>none
def h (n:Nat):Option (List (Nat × List (Nat × Nat))):=
 match n with
 | 2=>some [(0,[(0,0)]),(1,[(0,0)]),(4,[(0,0)]),(5,[(0,0)])]
 | _=>none
def C:Cfg R:=⟨ag br,Γ R c1,fun _=>false,h,0,fun _=>false⟩
noncomputable def S:=S0 (C R c1) Tryz.f99 0
noncomputable def G:=G0 (C R c1) Tryz.f99 0
def s2:=fun x0 f j m u=>(⟨eA 26 [(0,.ro 168 x0 false),(1,.str f),(4,.ptr 383 0),(5,.int .i64 j)],[(383,.var 26 [.bool m,.str u])],ez⟩:St)
noncomputable abbrev q2 {R:Type} (J:JT R):J2 R:=fun x0 f j m u=>J (placeOf Tryz.f99 2) (s2 x0 f j m u)
theorem k2 (J:JT R) (κ:KT R) (x0 f j m u:_):S R c1 κ J 2 (s2 x0 f j m u)=t2 c1 (q2 J) (K0 κ) x0 f j m u:=by kernel_rfl
theorem k (κ:KT R) (k:Nat) (a0 a1:_):cA (C R c1) Tryz.f99 10000 k [.ro 168 a0 false,.str a1] κ=dA.e c1 a0 a1 (q2 (G R c1 κ k)) (K0 κ):=by kernel_rfl
theorem g2 (κ:KT R):∀ (f:Nat),q2 (G R c1 κ f)=L2 c1 (K0 κ) f
 | 0=>rfl
 | f+1=>by
  funext x0 j m u z
  show S R c1 κ (G R c1 κ f) 2 _=_
  rw [k2,g2 κ f]
  rfl
end
theorem ae {R:Type} (tab:cg) (f:ay tab) (g:Nat):bT (R:=R) Tryz.prog (ag br) tab g ((C R cw).call g):=by
 refine aI fun xs κ => ?_
 show aa _ _ _ g xs κ (Γ R cw g xs κ)
 unfold Γ
 split
 ·split
  ·exact cw.aF tab f _ _ κ
  ·exact aa.none
 ·exact aa.none
theorem aF {R:Type} (tab:cg) (f:ay tab) (a0 a1:_) (κ:KT R):aa Tryz.prog (ag br) tab 99 [.ro 168 a0 false,.str a1] κ (dA a0 a1 (K0 κ)):=aj (C:=C R cw) (fn:=Tryz.f99) cE (ae tab f) (by kernel_rfl) (by kernel_rfl) (by rw [k];rw [g2 R cw κ ah];rfl)
end dA
namespace aN
abbrev K0 {R:Type} (κ:KT R):Int->Y1 R:=fun f=>κ [.int .i64 f]
section
variable (R:Type)
def Γ (g:Nat) (xs:List SV) (κ:KT R):Y1 R:=
 match g with
 | _=>none
def h (n:Nat):Option (List (Nat × List (Nat × Nat))):=
 match n with
 | 1=>some [(0,[(0,0)]),(1,[(0,0)])]
 | 7=>some [(0,[(0,0)]),(1,[(0,0)]),(5,[(0,0)])]
 | _=>none
def C:Cfg R:=⟨ag br,Γ R,fun _=>false,h,0,fun _=>false⟩
noncomputable def S:=S0 (C R) Tryz.f143 0
noncomputable def G:=G0 (C R) Tryz.f143 0
def s1:=fun x0 f=>(⟨eA 58 [(0,.str x0),(1,.int .i64 f)],[],ez⟩:St)
def s7:=fun x0 f j=>(⟨eA 58 [(0,.str x0),(1,.int .i64 f),(5,.int .i64 j)],[],ez⟩:St)
noncomputable abbrev q1 {R:Type} (J:JT R):BA->Int->Y1 R:=fun x0 f=>J (placeOf Tryz.f143 1) (s1 x0 f)
noncomputable abbrev q7 {R:Type} (J:JT R):J7 R:=fun x0 f j=>J (placeOf Tryz.f143 7) (s7 x0 f j)
theorem k1 (J:JT R) (κ:KT R) (x0 f:_):S R κ J 1 (s1 x0 f)=t1 (q1 J) (q7 J) (K0 κ) x0 f:=by kernel_rfl
theorem k7 (J:JT R) (κ:KT R) (x0 f j:_):S R κ J 7 (s7 x0 f j)=t7 (q1 J) (q7 J) x0 f j:=by kernel_rfl
theorem k (κ:KT R) (k:Nat) (a0 a1:_):cA (C R) Tryz.f143 10000 k [.str a0,.int .i64 a1] κ=aN.e a0 a1 (q1 (G R κ k)) (q7 (G R κ k)) (K0 κ):=by kernel_rfl
theorem IE (κ:KT R):∀ (f:Nat),(q1 (G R κ f)=L1 (K0 κ) f)/\(q7 (G R κ f)=L7 (K0 κ) f)
 | 0=>⟨rfl,rfl⟩
 | f+1=>by
  obtain ⟨j,m⟩:=IE κ f
  refine ⟨?_,?_⟩
  ·funext x0 u
   show S R κ (G R κ f) 1 _=_
   rw [k1,j,m]
   rfl
  ·funext x0 u z
   show S R κ (G R κ f) 7 _=_
   rw [k7,j,m]
   rfl
theorem g1 (κ:KT R) (f:Nat):q1 (G R κ f)=L1 (K0 κ) f:=(IE R κ f).1
theorem g7 (κ:KT R) (f:Nat):q7 (G R κ f)=L7 (K0 κ) f:=(IE R κ f).2
end
theorem ae {R:Type} (tab:cg) (f:ay tab) (g:Nat):bT (R:=R) Tryz.prog (ag br) tab g ((C R).call g):=by
 refine aI fun xs κ => ?_
 show aa _ _ _ g xs κ (Γ R g xs κ)
 unfold Γ
 split
 ·exact aa.none
theorem aF {R:Type} (tab:cg) (f:ay tab) (a0 a1:_) (κ:KT R):aa Tryz.prog (ag br) tab 143 [.str a0,.int .i64 a1] κ (aN a0 a1 (K0 κ)):=aj (C:=C R) (fn:=Tryz.f143) cE (ae tab f) (by kernel_rfl) (by kernel_rfl) (by rw [k];rw [g1 R κ ah,g7 R κ ah];rfl)
end aN
namespace bF
abbrev K0 {R:Type} (κ:KT R):Y3->Y1 R:=fun f=>κ [.bool f]
section
variable (R:Type)
def Γ (g:Nat) (xs:List SV) (κ:KT R):Y1 R:=
 match g with
 | _=>none
def h (n:Nat):Option (List (Nat × List (Nat × Nat))):=
 match n with
 | 5=>some [(0,[(0,0)]),(3,[(0,0)]),(4,[(0,0)])]
 | _=>none
def C:Cfg R:=⟨ag br,Γ R,fun _=>false,h,0,fun _=>false⟩
noncomputable def S:=S0 (C R) Tryz.f183 0
noncomputable def G:=G0 (C R) Tryz.f183 0
def s5:=fun x0 f j=>(⟨eA 22 [(0,.int .u8 x0),(3,.str f),(4,.int .i64 j)],[],ez⟩:St)
noncomputable abbrev q5 {R:Type} (J:JT R):J5 R:=fun x0 f j=>J (placeOf Tryz.f183 5) (s5 x0 f j)
theorem k5 (J:JT R) (κ:KT R) (x0 f j:_):S R κ J 5 (s5 x0 f j)=t5 (q5 J) (K0 κ) x0 f j:=by kernel_rfl
theorem k (κ:KT R) (k:Nat) (a0:_):cA (C R) Tryz.f183 10000 k [.int .u8 a0] κ=bF.e a0 (q5 (G R κ k)) (K0 κ):=by kernel_rfl
theorem g5 (κ:KT R):∀ (f:Nat),q5 (G R κ f)=L5 (K0 κ) f
 | 0=>rfl
 | f+1=>by
  funext x0 j m
  show S R κ (G R κ f) 5 _=_
  rw [k5,g5 κ f]
  rfl
end
theorem ae {R:Type} (tab:cg) (f:ay tab) (g:Nat):bT (R:=R) Tryz.prog (ag br) tab g ((C R).call g):=by
 refine aI fun xs κ => ?_
 show aa _ _ _ g xs κ (Γ R g xs κ)
 unfold Γ
 split
 ·exact aa.none
theorem aF {R:Type} (tab:cg) (f:ay tab) (a0:_) (κ:KT R):aa Tryz.prog (ag br) tab 183 [.int .u8 a0] κ (bF a0 (K0 κ)):=aj (C:=C R) (fn:=Tryz.f183) cE (ae tab f) (by kernel_rfl) (by kernel_rfl) (by rw [k];rw [g5 R κ ah];rfl)
end bF
namespace aR
abbrev K0 {R:Type} (κ:KT R):BA->Y1 R:=fun f=>κ [.str f]
section
variable (R:Type) (c1:bF.F R)
def Γ (g:Nat) (xs:List SV) (κ:KT R):Y1 R:=
 match g with
 | 183=>(match xs with
  | [.int .u8 a0]=>c1 a0 (bF.K0 κ)
  | _=>none)
 | _=>none
def h (n:Nat):Option (List (Nat × List (Nat × Nat))):=
 match n with
 | 2=>some [(0,[(0,0)]),(1,[(0,0)]),(5,[(0,0)])]
 | _=>none
def C:Cfg R:=⟨ag br,Γ R c1,fun _=>false,h,0,fun _=>false⟩
noncomputable def S:=S0 (C R c1) Tryz.f144 0
noncomputable def G:=G0 (C R c1) Tryz.f144 0
def s2:=fun x0 f j=>(⟨eA 23 [(0,.str x0),(1,.int .i64 f),(5,.int .i64 j)],[],ez⟩:St)
noncomputable abbrev q2 {R:Type} (J:JT R):J2 R:=fun x0 f j=>J (placeOf Tryz.f144 2) (s2 x0 f j)
theorem k2 (J:JT R) (κ:KT R) (x0 f j:_):S R c1 κ J 2 (s2 x0 f j)=t2 c1 (q2 J) (K0 κ) x0 f j:=by kernel_rfl
theorem k (κ:KT R) (k:Nat) (a0 a1:_):cA (C R c1) Tryz.f144 10000 k [.str a0,.int .i64 a1] κ=aR.e c1 a0 a1 (q2 (G R c1 κ k)) (K0 κ):=by kernel_rfl
theorem g2 (κ:KT R):∀ (f:Nat),q2 (G R c1 κ f)=L2 c1 (K0 κ) f
 | 0=>rfl
 | f+1=>by
  funext x0 j m
  show S R c1 κ (G R c1 κ f) 2 _=_
  rw [k2,g2 κ f]
  rfl
end
theorem ae {R:Type} (tab:cg) (f:ay tab) (g:Nat):bT (R:=R) Tryz.prog (ag br) tab g ((C R bF).call g):=by
 refine aI fun xs κ => ?_
 show aa _ _ _ g xs κ (Γ R bF g xs κ)
 unfold Γ
 split
 ·split
  ·exact bF.aF tab f _ κ
  ·exact aa.none
 ·exact aa.none
theorem aF {R:Type} (tab:cg) (f:ay tab) (a0 a1:_) (κ:KT R):aa Tryz.prog (ag br) tab 144 [.str a0,.int .i64 a1] κ (aR a0 a1 (K0 κ)):=aj (C:=C R bF) (fn:=Tryz.f144) cE (ae tab f) (by kernel_rfl) (by kernel_rfl) (by rw [k];rw [g2 R bF κ ah];rfl)
end aR
namespace bf
abbrev K0 {R:Type} (κ:KT R):BA->Y1 R:=fun f=>κ [.str f]
section
variable (R:Type)
def Γ (g:Nat) (xs:List SV) (κ:KT R):Y1 R:=
 match g with
 | _=>none
def h (n:Nat):Option (List (Nat × List (Nat × Nat))):=
 match n with
 | 3=>some [(0,[(0,0)]),(3,[(0,7)]),(4,[(0,0)])]
 | _=>none
def C:Cfg R:=⟨ag br,Γ R,fun _=>false,h,0,fun _=>false⟩
noncomputable def S:=S0 (C R) Tryz.f145 0
noncomputable def G:=G0 (C R) Tryz.f145 0
def s3:=fun x0 f j=>(⟨eA 29 [(0,.str x0),(3,.own 256),(4,.int .i64 f)],[(256,.row 5 j true)],ez⟩:St)
noncomputable abbrev q3 {R:Type} (J:JT R):J3 R:=fun x0 f j=>J (placeOf Tryz.f145 3) (s3 x0 f j)
theorem k3 (J:JT R) (κ:KT R) (x0 f j:_):S R κ J 3 (s3 x0 f j)=t3 (q3 J) (K0 κ) x0 f j:=by kernel_rfl
theorem k (κ:KT R) (k:Nat) (a0:_):cA (C R) Tryz.f145 10000 k [.str a0] κ=bf.e a0 (q3 (G R κ k)) (K0 κ):=by kernel_rfl
theorem g3 (κ:KT R):∀ (f:Nat),q3 (G R κ f)=L3 (K0 κ) f
 | 0=>rfl
 | f+1=>by
  funext x0 j m
  show S R κ (G R κ f) 3 _=_
  rw [k3,g3 κ f]
  rfl
end
theorem ae {R:Type} (tab:cg) (f:ay tab) (g:Nat):bT (R:=R) Tryz.prog (ag br) tab g ((C R).call g):=by
 refine aI fun xs κ => ?_
 show aa _ _ _ g xs κ (Γ R g xs κ)
 unfold Γ
 split
 ·exact aa.none
theorem aF {R:Type} (tab:cg) (f:ay tab) (a0:_) (κ:KT R):aa Tryz.prog (ag br) tab 145 [.str a0] κ (bf a0 (K0 κ)):=aj (C:=C R) (fn:=Tryz.f145) cE (ae tab f) (by kernel_rfl) (by kernel_rfl) (by rw [k];rw [g3 R κ ah];rfl)
end bf
namespace cU
abbrev K0 {R:Type} (κ:KT R):Q0 R:=fun f j m=>κ [.tup [.str f,.int .i64 j,.bool m]]
section
variable (R:Type) (c1:aR.F R)
def Γ (g:Nat) (xs:List SV) (κ:KT R):Y1 R:=
 match g with
 | 144=>(match xs with
  | [.str a0,.int .i64 a1]=>c1 a0 a1 (aR.K0 κ)
  | _=>none)
 | _=>none
def h (n:Nat):Option (List (Nat × List (Nat × Nat))):=
 match n with
 | 8=>some [(0,[(0,0)]),(1,[(0,0)]),(8,[(0,7)]),(9,[(0,0)])]
 | _=>none
def C:Cfg R:=⟨ag br,Γ R c1,fun _=>false,h,0,fun _=>false⟩
noncomputable def S:=S0 (C R c1) Tryz.f147 0
noncomputable def G:=G0 (C R c1) Tryz.f147 0
def s8:=fun x0 f j m=>(⟨eA 67 [(0,.str x0),(1,.int .i64 f),(8,.own 576),(9,.int .i64 j)],[(576,.row 5 m true)],ez⟩:St)
noncomputable abbrev q8 {R:Type} (J:JT R):J8 R:=fun x0 f j m=>J (placeOf Tryz.f147 8) (s8 x0 f j m)
theorem k8 (J:JT R) (κ:KT R) (x0 f j m:_):S R c1 κ J 8 (s8 x0 f j m)=t8 (q8 J) (K0 κ) x0 f j m:=by kernel_rfl
theorem k (κ:KT R) (k:Nat) (a0 a1:_):cA (C R c1) Tryz.f147 10000 k [.str a0,.int .i64 a1] κ=cU.e c1 a0 a1 (q8 (G R c1 κ k)) (K0 κ):=by kernel_rfl
theorem g8 (κ:KT R):∀ (f:Nat),q8 (G R c1 κ f)=L8 c1 (K0 κ) f
 | 0=>rfl
 | f+1=>by
  funext x0 j m u
  show S R c1 κ (G R c1 κ f) 8 _=_
  rw [k8,g8 κ f]
  rfl
end
theorem ae {R:Type} (tab:cg) (f:ay tab) (g:Nat):bT (R:=R) Tryz.prog (ag br) tab g ((C R aR).call g):=by
 refine aI fun xs κ => ?_
 show aa _ _ _ g xs κ (Γ R aR g xs κ)
 unfold Γ
 split
 ·split
  ·exact aR.aF tab f _ _ κ
  ·exact aa.none
 ·exact aa.none
theorem aF {R:Type} (tab:cg) (f:ay tab) (a0 a1:_) (κ:KT R):aa Tryz.prog (ag br) tab 147 [.str a0,.int .i64 a1] κ (cU a0 a1 (K0 κ)):=aj (C:=C R aR) (fn:=Tryz.f147) cE (ae tab f) (by kernel_rfl) (by kernel_rfl) (by rw [k];rw [g8 R aR κ ah];rfl)
end cU
namespace bn
abbrev K0 {R:Type} (κ:KT R):LA->Y1 R:=fun f=>κ [.fr 129 f true]
section
variable (R:Type) (c1:aN.F R) (c2:aR.F R) (c3:bf.F R) (c4:cU.F R)
def Γ (g:Nat) (xs:List SV) (κ:KT R):Y1 R:=
 match g with
 | 143=>(match xs with
  | [.str a0,.int .i64 a1]=>c1 a0 a1 (aN.K0 κ)
  | _=>none)
 | 144=>(match xs with
  | [.str a0,.int .i64 a1]=>c2 a0 a1 (aR.K0 κ)
  | _=>none)
 | 145=>(match xs with
  | [.str a0]=>c3 a0 (bf.K0 κ)
  | _=>none)
 | 147=>(match xs with
  | [.str a0,.int .i64 a1]=>c4 a0 a1 (cU.K0 κ)
  | _=>none)
 | _=>none
def h (n:Nat):Option (List (Nat × List (Nat × Nat))):=
 match n with
 | 2=>some [(0,[(0,0)]),(1,[(0,0)]),(5,[(0,131)])]
 | 17=>some [(0,[(0,0)]),(1,[(0,0)]),(5,[(0,0)]),(6,[(0,0)]),(7,[(0,0)]),(10,[(0,0)]),(11,[(0,0)])]
 | _=>none
def C:Cfg R:=⟨ag br,Γ R c1 c2 c3 c4,fun _=>false,h,0,fun _=>false⟩
noncomputable def S:=S0 (C R c1 c2 c3 c4) Tryz.f102 0
noncomputable def G:=G0 (C R c1 c2 c3 c4) Tryz.f102 0
def s2:=fun x0 f j=>(⟨eA 97 [(0,.str x0),(1,.int .i64 f),(5,.own 384)],[(384,.row 129 j true)],ez⟩:St)
def Ib:=fun x0 f j m u z A=>(⟨eA 97 [(0,.str x0),(1,.int .i64 f),(5,.own 384),(6,.str j),(7,.str m),(10,.bool u),(11,.int .i64 z)],[(384,.row 129 A true)],ez⟩:St)
noncomputable abbrev q2 {R:Type} (J:JT R):J2 R:=fun x0 f j=>J (placeOf Tryz.f102 2) (s2 x0 f j)
noncomputable abbrev Ei {R:Type} (J:JT R):y' R:=fun x0 f j m u z A=>J (placeOf Tryz.f102 17) (Ib x0 f j m u z A)
theorem k2 (J:JT R) (κ:KT R) (x0 f j:_):S R c1 c2 c3 c4 κ J 2 (s2 x0 f j)=t2 c1 c2 c3 c4 (Ei J) (K0 κ) x0 f j:=by kernel_rfl
theorem IL (J:JT R) (κ:KT R) (x0 f j m u z A:_):S R c1 c2 c3 c4 κ J 17 (Ib x0 f j m u z A)=t17 (q2 J) (Ei J) x0 f j m u z A:=by kernel_rfl
theorem k (κ:KT R) (k:Nat) (a0 a1:_):cA (C R c1 c2 c3 c4) Tryz.f102 10000 k [.str a0,.int .i64 a1] κ=bn.e c1 c2 c3 c4 a0 a1 (q2 (G R c1 c2 c3 c4 κ k)) (Ei (G R c1 c2 c3 c4 κ k)) (K0 κ):=by kernel_rfl
theorem IF (κ:KT R):∀ (f:Nat),(q2 (G R c1 c2 c3 c4 κ f)=L2 c1 c2 c3 c4 (K0 κ) f)/\(Ei (G R c1 c2 c3 c4 κ f)=Aq c1 c2 c3 c4 (K0 κ) f)
 | 0=>⟨rfl,rfl⟩
 | f+1=>by
  obtain ⟨m,j⟩:=IF κ f
  refine ⟨?_,?_⟩
  ·funext x0 u z
   show S R c1 c2 c3 c4 κ (G R c1 c2 c3 c4 κ f) 2 _=_
   rw [k2,j]
   rfl
  ·funext x0 u z A M N O
   show S R c1 c2 c3 c4 κ (G R c1 c2 c3 c4 κ f) 17 _=_
   rw [IL,m,j]
   rfl
theorem g2 (κ:KT R) (f:Nat):q2 (G R c1 c2 c3 c4 κ f)=L2 c1 c2 c3 c4 (K0 κ) f:=(IF R c1 c2 c3 c4 κ f).1
theorem g17 (κ:KT R) (f:Nat):Ei (G R c1 c2 c3 c4 κ f)=Aq c1 c2 c3 c4 (K0 κ) f:=(IF R c1 c2 c3 c4 κ f).2
end
theorem ae {R:Type} (tab:cg) (f:ay tab) (g:Nat):bT (R:=R) Tryz.prog (ag br) tab g ((C R aN aR bf cU).call g):=by
 refine aI fun xs κ => ?_
 show aa _ _ _ g xs κ (Γ R aN aR bf cU g xs κ)
 unfold Γ
 split
 ·split
  ·exact aN.aF tab f _ _ κ
  ·exact aa.none
 ·split
  ·exact aR.aF tab f _ _ κ
  ·exact aa.none
 ·split
  ·exact bf.aF tab f _ κ
  ·exact aa.none
 ·split
  ·exact cU.aF tab f _ _ κ
  ·exact aa.none
 ·exact aa.none
theorem aF {R:Type} (tab:cg) (f:ay tab) (a0 a1:_) (κ:KT R):aa Tryz.prog (ag br) tab 102 [.str a0,.int .i64 a1] κ (bn a0 a1 (K0 κ)):=aj (C:=C R aN aR bf cU) (fn:=Tryz.f102) cE (ae tab f) (by kernel_rfl) (by kernel_rfl) (by rw [k];rw [g2 R aN aR bf cU κ ah,g17 R aN aR bf cU κ ah];rfl)
end bn
namespace dp
abbrev K0 {R:Type} (κ:KT R):Q0 R:=fun f j m=>κ [.tup [.str f,.str j,.fr 129 m true]]
abbrev K1 {R:Type} (κ:KT R):BA->BA->Y1 R:=fun f j=>κ [.tup [.str f,.str j,.nil]]
section
variable (R:Type) (c1:aN.F R) (c2:aR.F R) (c3:bf.F R) (c4:bn.F R)
def Γ (g:Nat) (xs:List SV) (κ:KT R):Y1 R:=
 match g with
 | 102=>(match xs with
  | [.str a0,.int .i64 a1]=>c4 a0 a1 (bn.K0 κ)
  | _=>none)
 | 143=>(match xs with
  | [.str a0,.int .i64 a1]=>c1 a0 a1 (aN.K0 κ)
  | _=>none)
 | 144=>(match xs with
  | [.str a0,.int .i64 a1]=>c2 a0 a1 (aR.K0 κ)
  | _=>none)
 | 145=>(match xs with
  | [.str a0]=>c3 a0 (bf.K0 κ)
  | _=>none)
 | _=>none
def h (n:Nat):Option (List (Nat × List (Nat × Nat))):=
 match n with
 | _=>none
def C:Cfg R:=⟨ag br,Γ R c1 c2 c3 c4,fun _=>false,h,0,fun _=>false⟩
theorem k (κ:KT R) (k:Nat) (a0 a1 a2:_):cA (C R c1 c2 c3 c4) Tryz.f98 10000 k [.agg [.bool a0,.str a1],.bool a2] κ=dp.e c1 c2 c3 c4 a0 a1 a2 (K0 κ) (K1 κ):=by kernel_rfl
end
theorem ae {R:Type} (tab:cg) (f:ay tab) (g:Nat):bT (R:=R) Tryz.prog (ag br) tab g ((C R aN aR bf bn).call g):=by
 refine aI fun xs κ => ?_
 show aa _ _ _ g xs κ (Γ R aN aR bf bn g xs κ)
 unfold Γ
 split
 ·split
  ·exact bn.aF tab f _ _ κ
  ·exact aa.none
 ·split
  ·exact aN.aF tab f _ _ κ
  ·exact aa.none
 ·split
  ·exact aR.aF tab f _ _ κ
  ·exact aa.none
 ·split
  ·exact bf.aF tab f _ κ
  ·exact aa.none
 ·exact aa.none
theorem aF {R:Type} (tab:cg) (f:ay tab) (a0 a1 a2:_) (κ:KT R):aa Tryz.prog (ag br) tab 98 [.agg [.bool a0,.str a1],.bool a2] κ (dp a0 a1 a2 (K0 κ) (K1 κ)):=aj (C:=C R aN aR bf bn) (fn:=Tryz.f98) cE (ae tab f) (by kernel_rfl) (by kernel_rfl) (by rw [k];rfl)
end dp
namespace dy
abbrev K0 {R:Type} (κ:KT R):BA->Y1 R:=fun f=>κ [.str f]
section
variable (R:Type)
def Γ (g:Nat) (xs:List SV) (κ:KT R):Y1 R:=
 match g with
 | _=>none
def h (n:Nat):Option (List (Nat × List (Nat × Nat))):=
 match n with
 | 1=>some [(0,[(0,0)])]
 | 3=>some [(0,[(0,0)])]
 | _=>none
def C:Cfg R:=⟨ag br,Γ R,fun _=>false,h,0,fun _=>false⟩
noncomputable def S:=S0 (C R) Tryz.f146 0
noncomputable def G:=G0 (C R) Tryz.f146 0
def s1:=fun x0=>(⟨eA 43 [(0,.str x0)],[],ez⟩:St)
def s3:=fun x0=>(⟨eA 43 [(0,.str x0)],[],ez⟩:St)
noncomputable abbrev q1 {R:Type} (J:JT R):BA->Y1 R:=fun x0=>J (placeOf Tryz.f146 1) (s1 x0)
noncomputable abbrev q3 {R:Type} (J:JT R):BA->Y1 R:=fun x0=>J (placeOf Tryz.f146 3) (s3 x0)
theorem k1 (J:JT R) (κ:KT R) (x0:_):S R κ J 1 (s1 x0)=t1 (q1 J) (q3 J) x0:=by kernel_rfl
theorem k3 (J:JT R) (κ:KT R) (x0:_):S R κ J 3 (s3 x0)=t3 (q3 J) (K0 κ) x0:=by kernel_rfl
theorem k (κ:KT R) (k:Nat) (a0:_):cA (C R) Tryz.f146 10000 k [.str a0] κ=dy.e a0 (q1 (G R κ k)) (q3 (G R κ k)) (K0 κ):=by kernel_rfl
theorem g3 (κ:KT R):∀ (f:Nat),q3 (G R κ f)=L3 (K0 κ) f
 | 0=>rfl
 | f+1=>by
  funext x0
  show S R κ (G R κ f) 3 _=_
  rw [k3,g3 κ f]
  rfl
theorem g1 (κ:KT R):∀ (f:Nat),q1 (G R κ f)=L1 (K0 κ) f
 | 0=>rfl
 | f+1=>by
  funext x0
  show S R κ (G R κ f) 1 _=_
  rw [k1,g1 κ f,g3 R κ f]
  rfl
end
theorem ae {R:Type} (tab:cg) (f:ay tab) (g:Nat):bT (R:=R) Tryz.prog (ag br) tab g ((C R).call g):=by
 refine aI fun xs κ => ?_
 show aa _ _ _ g xs κ (Γ R g xs κ)
 unfold Γ
 split
 ·exact aa.none
theorem aF {R:Type} (tab:cg) (f:ay tab) (a0:_) (κ:KT R):aa Tryz.prog (ag br) tab 146 [.str a0] κ (dy a0 (K0 κ)):=aj (C:=C R) (fn:=Tryz.f146) cE (ae tab f) (by kernel_rfl) (by kernel_rfl) (by rw [k];rw [g1 R κ ah,g3 R κ ah];rfl)
end dy
namespace dw
abbrev K0 {R:Type} (κ:KT R):Y3->BA->Y1 R:=fun f j=>κ [.agg [.bool f,.str j]]
section
variable (R:Type) (c1:dy.F R)
def Γ (g:Nat) (xs:List SV) (κ:KT R):Y1 R:=
 match g with
 | 146=>(match xs with
  | [.str a0]=>c1 a0 (dy.K0 κ)
  | _=>none)
 | _=>none
def h (n:Nat):Option (List (Nat × List (Nat × Nat))):=
 match n with
 | _=>none
def C:Cfg R:=⟨ag br,Γ R c1,fun _=>false,h,0,fun _=>false⟩
theorem k (κ:KT R) (k:Nat) (a0 a1:_):cA (C R c1) Tryz.f100 10000 k [.agg [.bool a0,.str a1]] κ=dw.e c1 a0 a1 (K0 κ):=by kernel_rfl
end
theorem ae {R:Type} (tab:cg) (f:ay tab) (g:Nat):bT (R:=R) Tryz.prog (ag br) tab g ((C R dy).call g):=by
 refine aI fun xs κ => ?_
 show aa _ _ _ g xs κ (Γ R dy g xs κ)
 unfold Γ
 split
 ·split
  ·exact dy.aF tab f _ κ
  ·exact aa.none
 ·exact aa.none
theorem aF {R:Type} (tab:cg) (f:ay tab) (a0 a1:_) (κ:KT R):aa Tryz.prog (ag br) tab 100 [.agg [.bool a0,.str a1]] κ (dw a0 a1 (K0 κ)):=aj (C:=C R dy) (fn:=Tryz.f100) cE (ae tab f) (by kernel_rfl) (by kernel_rfl) (by rw [k];rfl)
end dw
namespace cX
abbrev K0 {R:Type} (κ:KT R):Q0 R:=fun f j m=>κ [.tup [.agg [.bool f,.str j],.int .i64 m]]
section
variable (R:Type) (c1:aN.F R) (c2:aR.F R) (c3:bf.F R)
def Γ (g:Nat) (xs:List SV) (κ:KT R):Y1 R:=
 match g with
 | 143=>(match xs with
  | [.str a0,.int .i64 a1]=>c1 a0 a1 (aN.K0 κ)
  | _=>none)
 | 144=>(match xs with
  | [.str a0,.int .i64 a1]=>c2 a0 a1 (aR.K0 κ)
  | _=>none)
 | 145=>(match xs with
  | [.str a0]=>c3 a0 (bf.K0 κ)
  | _=>none)
 | _=>none
def h (n:Nat):Option (List (Nat × List (Nat × Nat))):=
 match n with
 | _=>none
def C:Cfg R:=⟨ag br,Γ R c1 c2 c3,fun _=>false,h,0,fun _=>false⟩
theorem k (κ:KT R) (k:Nat) (a0 a1:_):cA (C R c1 c2 c3) Tryz.f101 10000 k [.agg [.bool a0,.str a1]] κ=cX.e c1 c2 c3 a0 a1 (K0 κ):=by kernel_rfl
end
theorem ae {R:Type} (tab:cg) (f:ay tab) (g:Nat):bT (R:=R) Tryz.prog (ag br) tab g ((C R aN aR bf).call g):=by
 refine aI fun xs κ => ?_
 show aa _ _ _ g xs κ (Γ R aN aR bf g xs κ)
 unfold Γ
 split
 ·split
  ·exact aN.aF tab f _ _ κ
  ·exact aa.none
 ·split
  ·exact aR.aF tab f _ _ κ
  ·exact aa.none
 ·split
  ·exact bf.aF tab f _ κ
  ·exact aa.none
 ·exact aa.none
theorem aF {R:Type} (tab:cg) (f:ay tab) (a0 a1:_) (κ:KT R):aa Tryz.prog (ag br) tab 101 [.agg [.bool a0,.str a1]] κ (cX a0 a1 (K0 κ)):=aj (C:=C R aN aR bf) (fn:=Tryz.f101) cE (ae tab f) (by kernel_rfl) (by kernel_rfl) (by rw [k];rfl)
end cX
namespace cF
abbrev K0 {R:Type} (κ:KT R):LA->Y1 R:=fun f=>κ [.fr 9 f true]
section
variable (R:Type) (c1:aN.F R) (c2:aR.F R) (c3:bf.F R)
def Γ (g:Nat) (xs:List SV) (κ:KT R):Y1 R:=
 match g with
 | 143=>(match xs with
  | [.str a0,.int .i64 a1]=>c1 a0 a1 (aN.K0 κ)
  | _=>none)
 | 144=>(match xs with
  | [.str a0,.int .i64 a1]=>c2 a0 a1 (aR.K0 κ)
  | _=>none)
 | 145=>(match xs with
  | [.str a0]=>c3 a0 (bf.K0 κ)
  | _=>none)
 | _=>none
def h (n:Nat):Option (List (Nat × List (Nat × Nat))):=
 match n with
 | 3=>some [(1,[(0,0)]),(3,[(0,11)]),(4,[(0,0)])]
 | _=>none
def C:Cfg R:=⟨ag br,Γ R c1 c2 c3,fun _=>false,h,0,fun _=>false⟩
noncomputable def S:=S0 (C R c1 c2 c3) Tryz.f103 0
noncomputable def G:=G0 (C R c1 c2 c3) Tryz.f103 0
def s3:=fun x0 f j m=>(⟨eA 52 [(1,.ptr 191 0),(3,.own 256),(4,.int .i64 x0)],[(191,.var 26 [.bool f,.str j]),(256,.row 9 m true)],ez⟩:St)
noncomputable abbrev q3 {R:Type} (J:JT R):J3 R:=fun x0 f j m=>J (placeOf Tryz.f103 3) (s3 x0 f j m)
theorem k3 (J:JT R) (κ:KT R) (x0 f j m:_):S R c1 c2 c3 κ J 3 (s3 x0 f j m)=t3 c1 c2 c3 (q3 J) (K0 κ) x0 f j m:=by kernel_rfl
theorem k (κ:KT R) (k:Nat) (a0 a1:_):cA (C R c1 c2 c3) Tryz.f103 10000 k [.agg [.bool a0,.str a1]] κ=cF.e c1 c2 c3 a0 a1 (q3 (G R c1 c2 c3 κ k)) (K0 κ):=by kernel_rfl
theorem g3 (κ:KT R):∀ (f:Nat),q3 (G R c1 c2 c3 κ f)=L3 c1 c2 c3 (K0 κ) f
 | 0=>rfl
 | f+1=>by
  funext x0 j m u
  show S R c1 c2 c3 κ (G R c1 c2 c3 κ f) 3 _=_
  rw [k3,g3 κ f]
  rfl
end
theorem ae {R:Type} (tab:cg) (f:ay tab) (g:Nat):bT (R:=R) Tryz.prog (ag br) tab g ((C R aN aR bf).call g):=by
 refine aI fun xs κ => ?_
 show aa _ _ _ g xs κ (Γ R aN aR bf g xs κ)
 unfold Γ
 split
 ·split
  ·exact aN.aF tab f _ _ κ
  ·exact aa.none
 ·split
  ·exact aR.aF tab f _ _ κ
  ·exact aa.none
 ·split
  ·exact bf.aF tab f _ κ
  ·exact aa.none
 ·exact aa.none
theorem aF {R:Type} (tab:cg) (f:ay tab) (a0 a1:_) (κ:KT R):aa Tryz.prog (ag br) tab 103 [.agg [.bool a0,.str a1]] κ (cF a0 a1 (K0 κ)):=aj (C:=C R aN aR bf) (fn:=Tryz.f103) cE (ae tab f) (by kernel_rfl) (by kernel_rfl) (by rw [k];rw [g3 R aN aR bf κ ah];rfl)
end cF
namespace aZ
abbrev K0 {R:Type} (κ:KT R):Q0 R:=fun W X Y r3 r4 r5 r6 r7 r8 r9 f j m u z A M N O U V=>κ [.agg [.str W,.str X,.str Y,.ro 129 r3 true,.bool r4,.str r5,.bool r6,.str r7,.bool r8,.str r9,.bool f,.str j,.ro 129 m true,.ro 9 u true,.bool z,.str A,.int .i64 M,.int .i64 N,.int .i64 O,.int .i64 U,.int .i64 V,.nil]]
section
variable (R:Type) (c1:cP.F R) (c2:cr.F R) (c3:dA.F R) (c4:dp.F R) (c5:dw.F R) (c6:cX.F R) (c7:bn.F R) (c8:cF.F R)
def Γ (g:Nat) (xs:List SV) (κ:KT R):Y1 R:=
 match g with
 | 83=>(match xs with
  | [.str a0]=>c2 a0 (cr.K0 κ)
  | _=>none)
 | 97=>(match xs with
  | [.str a0]=>c1 a0 (cP.K0 κ)
  | _=>none)
 | 98=>(match xs with
  | [.agg [.bool a0,.str a1],.bool a2]=>c4 a0 a1 a2 (dp.K0 κ) (dp.K1 κ)
  | _=>none)
 | 99=>(match xs with
  | [.ro 168 a0 false,.str a1]=>c3 a0 a1 (dA.K0 κ)
  | _=>none)
 | 100=>(match xs with
  | [.agg [.bool a0,.str a1]]=>c5 a0 a1 (dw.K0 κ)
  | _=>none)
 | 101=>(match xs with
  | [.agg [.bool a0,.str a1]]=>c6 a0 a1 (cX.K0 κ)
  | _=>none)
 | 102=>(match xs with
  | [.str a0,.int .i64 a1]=>c7 a0 a1 (bn.K0 κ)
  | _=>none)
 | 103=>(match xs with
  | [.agg [.bool a0,.str a1]]=>c8 a0 a1 (cF.K0 κ)
  | _=>none)
 | _=>none
def h (n:Nat):Option (List (Nat × List (Nat × Nat))):=
 match n with
 | 6=>some [(8,[(0,0)]),(11,[(0,0)]),(13,[(3,131)])]
 | 16=>some [(8,[(0,0)]),(13,[(3,131),(3,1),(12,131),(12,1),(13,11),(13,1)])]
 | _=>none
def C:Cfg R:=⟨ag br,Γ R c1 c2 c3 c4 c5 c6 c7 c8,fun _=>false,h,0,fun _=>false⟩
noncomputable def S:=S0 (C R c1 c2 c3 c4 c5 c6 c7 c8) Tryz.f51 0
noncomputable def G:=G0 (C R c1 c2 c3 c4 c5 c6 c7 c8) Tryz.f51 0
def s6:=fun x0 x1 x2 x3 x4 x5 x6 x7 x8 x9 f j m u z A M N O U V W X Y ad ae ap ar ax a1 a6 a7 a8 bb be bk bs bx=>(⟨eA 95 [(8,.ptr 639 0),(11,.own 768),(13,.ptr 959 0)],[(639,.var 32 [.str x0,.str x1,.str x2,.nil,.bool x3,.str x4,.bool x5,.str x6,.bool x7,.str x8,.bool x9,.str f,.nil,.nil,.bool j,.str m,.int .i64 u,.int .i64 z,.int .i64 A,.int .i64 M,.int .i64 N,.nil]),(768,.row 168 O true),(959,.var 32 [.str U,.str V,.str W,.own 899,.bool X,.str Y,.bool ad,.str ae,.bool ap,.str ar,.bool ax,.str a1,.nil,.nil,.bool a6,.str a7,.int .i64 a8,.int .i64 bb,.int .i64 be,.int .i64 bk,.int .i64 bs,.nil]),(899,.row 129 bx true)],ez⟩:St)
def Jo:=fun x0 x1 x2 x3 x4 x5 x6 x7 x8 x9 f j m u z A M N O U V W X Y ad ae ap ar ax a1 a6 a7 a8 bb be bk bs bx bP=>(⟨eA 95 [(8,.ptr 639 0),(13,.ptr 959 0)],[(639,.var 32 [.str x0,.str x1,.str x2,.nil,.bool x3,.str x4,.bool x5,.str x6,.bool x7,.str x8,.bool x9,.str f,.nil,.nil,.bool j,.str m,.int .i64 u,.int .i64 z,.int .i64 A,.int .i64 M,.int .i64 N,.nil]),(959,.var 32 [.str O,.str U,.str V,.ro 129 W true,.bool X,.str Y,.bool ad,.str ae,.bool ap,.str ar,.bool ax,.str a1,.ro 129 a6 true,.ro 9 a7 true,.bool a8,.str bb,.int .i64 be,.int .i64 bk,.int .i64 bs,.int .i64 bx,.int .i64 bP,.nil])],ez⟩:St)
noncomputable abbrev q6 {R:Type} (J:JT R):J6 R:=fun x0 x1 x2 x3 x4 x5 x6 x7 x8 x9 f j m u z A M N O U V W X Y ad ae ap ar ax a1 a6 a7 a8 bb be bk bs bx=>J (placeOf Tryz.f51 6) (s6 x0 x1 x2 x3 x4 x5 x6 x7 x8 x9 f j m u z A M N O U V W X Y ad ae ap ar ax a1 a6 a7 a8 bb be bk bs bx)
noncomputable abbrev I5 {R:Type} (J:JT R):Hz R:=fun x0 x1 x2 x3 x4 x5 x6 x7 x8 x9 f j m u z A M N O U V W X Y ad ae ap ar ax a1 a6 a7 a8 bb be bk bs bx bP=>J (placeOf Tryz.f51 16) (Jo x0 x1 x2 x3 x4 x5 x6 x7 x8 x9 f j m u z A M N O U V W X Y ad ae ap ar ax a1 a6 a7 a8 bb be bk bs bx bP)
theorem k6 (J:JT R) (κ:KT R) (x0 x1 x2 x3 x4 x5 x6 x7 x8 x9 f j m u z A M N O U V W X Y ad ae ap ar ax a1 a6 a7 a8 bb be bk bs bx:_):S R c1 c2 c3 c4 c5 c6 c7 c8 κ J 6 (s6 x0 x1 x2 x3 x4 x5 x6 x7 x8 x9 f j m u z A M N O U V W X Y ad ae ap ar ax a1 a6 a7 a8 bb be bk bs bx)=t6 c3 c5 c6 c7 c8 (I5 J) x0 x1 x2 x3 x4 x5 x6 x7 x8 x9 f j m u z A M N O U V W X Y ad ae ap ar ax a1 a6 a7 a8 bb be bk bs bx:=by kernel_rfl
theorem Jy (J:JT R) (κ:KT R) (x0 x1 x2 x3 x4 x5 x6 x7 x8 x9 f j m u z A M N O U V W X Y ad ae ap ar ax a1 a6 a7 a8 bb be bk bs bx bP:_):S R c1 c2 c3 c4 c5 c6 c7 c8 κ J 16 (Jo x0 x1 x2 x3 x4 x5 x6 x7 x8 x9 f j m u z A M N O U V W X Y ad ae ap ar ax a1 a6 a7 a8 bb be bk bs bx bP)=t16 (K0 κ) x0 x1 x2 x3 x4 x5 x6 x7 x8 x9 f j m u z A M N O U V W X Y ad ae ap ar ax a1 a6 a7 a8 bb be bk bs bx bP:=by kernel_rfl
theorem k (κ:KT R) (k:Nat) (a0 a1 a2 a3 a4:_):cA (C R c1 c2 c3 c4 c5 c6 c7 c8) Tryz.f51 10000 k [.str a0,.agg [.int .i64 a1,.int .i64 a2],.str a3,.bool a4] κ=aZ.e c1 c2 c3 c4 c5 c6 c7 c8 a0 a1 a2 a3 a4 (q6 (G R c1 c2 c3 c4 c5 c6 c7 c8 κ k)) (I5 (G R c1 c2 c3 c4 c5 c6 c7 c8 κ k)) (K0 κ):=by kernel_rfl
theorem g16 (κ:KT R):∀ (f:Nat),I5 (G R c1 c2 c3 c4 c5 c6 c7 c8 κ f)=FG c1 c2 c3 c4 c5 c6 c7 c8 (K0 κ) f
 | 0=>rfl
 | f+1=>by
  funext x0 x1 x2 x3 x4 x5 x6 x7 x8 x9 j m u z A M N O U V W X Y ad ae ap ar ax a1 a6 a7 a8 bb be bk bs bx bP bS
  show S R c1 c2 c3 c4 c5 c6 c7 c8 κ (G R c1 c2 c3 c4 c5 c6 c7 c8 κ f) 16 _=_
  rw [Jy]
  rfl
theorem g6 (κ:KT R):∀ (f:Nat),q6 (G R c1 c2 c3 c4 c5 c6 c7 c8 κ f)=L6 c1 c2 c3 c4 c5 c6 c7 c8 (K0 κ) f
 | 0=>rfl
 | f+1=>by
  funext x0 x1 x2 x3 x4 x5 x6 x7 x8 x9 j m u z A M N O U V W X Y ad ae ap ar ax a1 a6 a7 a8 bb be bk bs bx bP
  show S R c1 c2 c3 c4 c5 c6 c7 c8 κ (G R c1 c2 c3 c4 c5 c6 c7 c8 κ f) 6 _=_
  rw [k6,g16 R c1 c2 c3 c4 c5 c6 c7 c8 κ f]
  rfl
end
theorem ae {R:Type} (tab:cg) (f:ay tab) (g:Nat):bT (R:=R) Tryz.prog (ag br) tab g ((C R cP cr dA dp dw cX bn cF).call g):=by
 refine aI fun xs κ => ?_
 show aa _ _ _ g xs κ (Γ R cP cr dA dp dw cX bn cF g xs κ)
 unfold Γ
 split
 ·split
  ·exact cr.aF tab f _ κ
  ·exact aa.none
 ·split
  ·exact cP.aF tab f _ κ
  ·exact aa.none
 ·split
  ·exact dp.aF tab f _ _ _ κ
  ·exact aa.none
 ·split
  ·exact dA.aF tab f _ _ κ
  ·exact aa.none
 ·split
  ·exact dw.aF tab f _ _ κ
  ·exact aa.none
 ·split
  ·exact cX.aF tab f _ _ κ
  ·exact aa.none
 ·split
  ·exact bn.aF tab f _ _ κ
  ·exact aa.none
 ·split
  ·exact cF.aF tab f _ _ κ
  ·exact aa.none
 ·exact aa.none
theorem aF {R:Type} (tab:cg) (f:ay tab) (a0 a1 a2 a3 a4:_) (κ:KT R):aa Tryz.prog (ag br) tab 51 [.str a0,.agg [.int .i64 a1,.int .i64 a2],.str a3,.bool a4] κ (aZ a0 a1 a2 a3 a4 (K0 κ)):=aj (C:=C R cP cr dA dp dw cX bn cF) (fn:=Tryz.f51) cE (ae tab f) (by kernel_rfl) (by kernel_rfl) (by rw [k];rw [g6 R cP cr dA dp dw cX bn cF κ ah,g16 R cP cr dA dp dw cX bn cF κ ah];rfl)
end aZ
namespace bJ
abbrev K0 {R:Type} (κ:KT R):Int->Y1 R:=fun f=>κ [.int .i64 f]
section
variable (R:Type)
def Γ (g:Nat) (xs:List SV) (κ:KT R):Y1 R:=
 match g with
 | _=>none
def h (n:Nat):Option (List (Nat × List (Nat × Nat))):=
 match n with
 | 3=>some [(0,[(0,0)]),(3,[(0,0)]),(4,[(0,0)])]
 | _=>none
def C:Cfg R:=⟨ag br,Γ R,fun _=>false,h,0,fun _=>false⟩
noncomputable def S:=S0 (C R) Tryz.f94 0
noncomputable def G:=G0 (C R) Tryz.f94 0
def s3:=fun x0 f j=>(⟨eA 26 [(0,.str x0),(3,.int .i64 f),(4,.int .i64 j)],[],ez⟩:St)
noncomputable abbrev q3 {R:Type} (J:JT R):J3 R:=fun x0 f j=>J (placeOf Tryz.f94 3) (s3 x0 f j)
theorem k3 (J:JT R) (κ:KT R) (x0 f j:_):S R κ J 3 (s3 x0 f j)=t3 (q3 J) (K0 κ) x0 f j:=by kernel_rfl
theorem k (κ:KT R) (k:Nat) (a0:_):cA (C R) Tryz.f94 10000 k [.str a0] κ=bJ.e a0 (q3 (G R κ k)) (K0 κ):=by kernel_rfl
theorem g3 (κ:KT R):∀ (f:Nat),q3 (G R κ f)=L3 (K0 κ) f
 | 0=>rfl
 | f+1=>by
  funext x0 j m
  show S R κ (G R κ f) 3 _=_
  rw [k3,g3 κ f]
  rfl
end
theorem ae {R:Type} (tab:cg) (f:ay tab) (g:Nat):bT (R:=R) Tryz.prog (ag br) tab g ((C R).call g):=by
 refine aI fun xs κ => ?_
 show aa _ _ _ g xs κ (Γ R g xs κ)
 unfold Γ
 split
 ·exact aa.none
theorem aF {R:Type} (tab:cg) (f:ay tab) (a0:_) (κ:KT R):aa Tryz.prog (ag br) tab 94 [.str a0] κ (bJ a0 (K0 κ)):=aj (C:=C R) (fn:=Tryz.f94) cE (ae tab f) (by kernel_rfl) (by kernel_rfl) (by rw [k];rw [g3 R κ ah];rfl)
end bJ
namespace cY
abbrev K0 {R:Type} (κ:KT R):BA->Y1 R:=fun f=>κ [.str f]
section
variable (R:Type)
def Γ (g:Nat) (xs:List SV) (κ:KT R):Y1 R:=
 match g with
 | _=>none
def h (n:Nat):Option (List (Nat × List (Nat × Nat))):=
 match n with
 | 2=>some [(0,[(0,0)]),(1,[(0,0)]),(5,[(0,0)])]
 | _=>none
def C:Cfg R:=⟨ag br,Γ R,fun _=>false,h,0,fun _=>false⟩
noncomputable def S:=S0 (C R) Tryz.f138 0
noncomputable def G:=G0 (C R) Tryz.f138 0
def s2:=fun x0 f j=>(⟨eA 24 [(0,.ro 129 x0 true),(1,.str f),(5,.int .i64 j)],[],ez⟩:St)
noncomputable abbrev q2 {R:Type} (J:JT R):J2 R:=fun x0 f j=>J (placeOf Tryz.f138 2) (s2 x0 f j)
theorem k2 (J:JT R) (κ:KT R) (x0 f j:_):S R κ J 2 (s2 x0 f j)=t2 (q2 J) (K0 κ) x0 f j:=by kernel_rfl
theorem k (κ:KT R) (k:Nat) (a0 a1:_):cA (C R) Tryz.f138 10000 k [.ro 129 a0 true,.str a1] κ=cY.e a0 a1 (q2 (G R κ k)) (K0 κ):=by kernel_rfl
theorem g2 (κ:KT R):∀ (f:Nat),q2 (G R κ f)=L2 (K0 κ) f
 | 0=>rfl
 | f+1=>by
  funext x0 j m
  show S R κ (G R κ f) 2 _=_
  rw [k2,g2 κ f]
  rfl
end
theorem ae {R:Type} (tab:cg) (f:ay tab) (g:Nat):bT (R:=R) Tryz.prog (ag br) tab g ((C R).call g):=by
 refine aI fun xs κ => ?_
 show aa _ _ _ g xs κ (Γ R g xs κ)
 unfold Γ
 split
 ·exact aa.none
theorem aF {R:Type} (tab:cg) (f:ay tab) (a0 a1:_) (κ:KT R):aa Tryz.prog (ag br) tab 138 [.ro 129 a0 true,.str a1] κ (cY a0 a1 (K0 κ)):=aj (C:=C R) (fn:=Tryz.f138) cE (ae tab f) (by kernel_rfl) (by kernel_rfl) (by rw [k];rw [g2 R κ ah];rfl)
end cY
namespace cz
abbrev K0 {R:Type} (κ:KT R):Y3->Y1 R:=fun f=>κ [.bool f]
section
variable (R:Type)
def Γ (g:Nat) (xs:List SV) (κ:KT R):Y1 R:=
 match g with
 | _=>none
def h (n:Nat):Option (List (Nat × List (Nat × Nat))):=
 match n with
 | 2=>some [(0,[(0,0)]),(3,[(0,0)])]
 | _=>none
def C:Cfg R:=⟨ag br,Γ R,fun _=>false,h,0,fun _=>false⟩
noncomputable def S:=S0 (C R) Tryz.f139 0
noncomputable def G:=G0 (C R) Tryz.f139 0
def s2:=fun x0 f=>(⟨eA 22 [(0,.str x0),(3,.int .i64 f)],[],ez⟩:St)
noncomputable abbrev q2 {R:Type} (J:JT R):BA->Int->Y1 R:=fun x0 f=>J (placeOf Tryz.f139 2) (s2 x0 f)
theorem k2 (J:JT R) (κ:KT R) (x0 f:_):S R κ J 2 (s2 x0 f)=t2 (q2 J) (K0 κ) x0 f:=by kernel_rfl
theorem k (κ:KT R) (k:Nat) (a0:_):cA (C R) Tryz.f139 10000 k [.str a0] κ=cz.e a0 (q2 (G R κ k)) (K0 κ):=by kernel_rfl
theorem g2 (κ:KT R):∀ (f:Nat),q2 (G R κ f)=L2 (K0 κ) f
 | 0=>rfl
 | f+1=>by
  funext x0 j
  show S R κ (G R κ f) 2 _=_
  rw [k2,g2 κ f]
  rfl
end
theorem ae {R:Type} (tab:cg) (f:ay tab) (g:Nat):bT (R:=R) Tryz.prog (ag br) tab g ((C R).call g):=by
 refine aI fun xs κ => ?_
 show aa _ _ _ g xs κ (Γ R g xs κ)
 unfold Γ
 split
 ·exact aa.none
theorem aF {R:Type} (tab:cg) (f:ay tab) (a0:_) (κ:KT R):aa Tryz.prog (ag br) tab 139 [.str a0] κ (cz a0 (K0 κ)):=aj (C:=C R) (fn:=Tryz.f139) cE (ae tab f) (by kernel_rfl) (by kernel_rfl) (by rw [k];rw [g2 R κ ah];rfl)
end cz
namespace bQ
abbrev K0 {R:Type} (κ:KT R):Int->Int->Y1 R:=fun f j=>κ [.tup [.int .i64 f,.int .i64 j]]
section
variable (R:Type)
def Γ (g:Nat) (xs:List SV) (κ:KT R):Y1 R:=
 match g with
 | _=>none
def h (n:Nat):Option (List (Nat × List (Nat × Nat))):=
 match n with
 | 9=>some [(0,[(0,0)]),(9,[(0,0)]),(10,[(0,0)])]
 | _=>none
def C:Cfg R:=⟨ag br,Γ R,fun _=>false,h,0,fun _=>false⟩
noncomputable def S:=S0 (C R) Tryz.f181 0
noncomputable def G:=G0 (C R) Tryz.f181 0
def s9:=fun x0 f j=>(⟨eA 104 [(0,.str x0),(9,.int .i64 f),(10,.int .i64 j)],[],ez⟩:St)
noncomputable abbrev q9 {R:Type} (J:JT R):J9 R:=fun x0 f j=>J (placeOf Tryz.f181 9) (s9 x0 f j)
theorem k9 (J:JT R) (κ:KT R) (x0 f j:_):S R κ J 9 (s9 x0 f j)=t9 (q9 J) (K0 κ) x0 f j:=by kernel_rfl
theorem k (κ:KT R) (k:Nat) (a0 a1 a2:_):cA (C R) Tryz.f181 10000 k [.str a0,.int .i64 a1,.str a2] κ=bQ.e a0 a1 a2 (q9 (G R κ k)) (K0 κ):=by kernel_rfl
theorem g9 (κ:KT R):∀ (f:Nat),q9 (G R κ f)=L9 (K0 κ) f
 | 0=>rfl
 | f+1=>by
  funext x0 j m
  show S R κ (G R κ f) 9 _=_
  rw [k9,g9 κ f]
  rfl
end
theorem ae {R:Type} (tab:cg) (f:ay tab) (g:Nat):bT (R:=R) Tryz.prog (ag br) tab g ((C R).call g):=by
 refine aI fun xs κ => ?_
 show aa _ _ _ g xs κ (Γ R g xs κ)
 unfold Γ
 split
 ·exact aa.none
theorem aF {R:Type} (tab:cg) (f:ay tab) (a0 a1 a2:_) (κ:KT R):aa Tryz.prog (ag br) tab 181 [.str a0,.int .i64 a1,.str a2] κ (bQ a0 a1 a2 (K0 κ)):=aj (C:=C R) (fn:=Tryz.f181) cE (ae tab f) (by kernel_rfl) (by kernel_rfl) (by rw [k];rw [g9 R κ ah];rfl)
end bQ
namespace cC
abbrev K0 {R:Type} (κ:KT R):Int->Y1 R:=fun f=>κ [.int .i64 f]
section
variable (R:Type)
def Γ (g:Nat) (xs:List SV) (κ:KT R):Y1 R:=
 match g with
 | _=>none
def h (n:Nat):Option (List (Nat × List (Nat × Nat))):=
 match n with
 | 2=>some [(0,[(0,0)]),(5,[(0,0)])]
 | _=>none
def C:Cfg R:=⟨ag br,Γ R,fun _=>false,h,0,fun _=>false⟩
noncomputable def S:=S0 (C R) Tryz.f182 0
noncomputable def G:=G0 (C R) Tryz.f182 0
def s2:=fun x0 f=>(⟨eA 29 [(0,.str x0),(5,.int .i64 f)],[],ez⟩:St)
noncomputable abbrev q2 {R:Type} (J:JT R):BA->Int->Y1 R:=fun x0 f=>J (placeOf Tryz.f182 2) (s2 x0 f)
theorem k2 (J:JT R) (κ:KT R) (x0 f:_):S R κ J 2 (s2 x0 f)=t2 (q2 J) (K0 κ) x0 f:=by kernel_rfl
theorem k (κ:KT R) (k:Nat) (a0 a1:_):cA (C R) Tryz.f182 10000 k [.str a0,.int .i64 a1] κ=cC.e a0 a1 (q2 (G R κ k)) (K0 κ):=by kernel_rfl
theorem g2 (κ:KT R):∀ (f:Nat),q2 (G R κ f)=L2 (K0 κ) f
 | 0=>rfl
 | f+1=>by
  funext x0 j
  show S R κ (G R κ f) 2 _=_
  rw [k2,g2 κ f]
  rfl
end
theorem ae {R:Type} (tab:cg) (f:ay tab) (g:Nat):bT (R:=R) Tryz.prog (ag br) tab g ((C R).call g):=by
 refine aI fun xs κ => ?_
 show aa _ _ _ g xs κ (Γ R g xs κ)
 unfold Γ
 split
 ·exact aa.none
theorem aF {R:Type} (tab:cg) (f:ay tab) (a0 a1:_) (κ:KT R):aa Tryz.prog (ag br) tab 182 [.str a0,.int .i64 a1] κ (cC a0 a1 (K0 κ)):=aj (C:=C R) (fn:=Tryz.f182) cE (ae tab f) (by kernel_rfl) (by kernel_rfl) (by rw [k];rw [g2 R κ ah];rfl)
end cC
namespace cT
abbrev K0 {R:Type} (κ:KT R):LA->Y1 R:=fun f=>κ [.fr 29 f true]
section
variable (R:Type) (c1:bQ.F R) (c2:cC.F R)
def Γ (g:Nat) (xs:List SV) (κ:KT R):Y1 R:=
 match g with
 | 181=>(match xs with
  | [.str a0,.int .i64 a1,.str a2]=>c1 a0 a1 a2 (bQ.K0 κ)
  | _=>none)
 | 182=>(match xs with
  | [.str a0,.int .i64 a1]=>c2 a0 a1 (cC.K0 κ)
  | _=>none)
 | _=>none
def h (n:Nat):Option (List (Nat × List (Nat × Nat))):=
 match n with
 | 4=>some [(0,[(0,0)]),(1,[(0,0)]),(5,[(0,31)]),(6,[(0,0)]),(7,[(0,0)])]
 | _=>none
def C:Cfg R:=⟨ag br,Γ R c1 c2,fun _=>false,h,0,fun _=>false⟩
noncomputable def S:=S0 (C R c1 c2) Tryz.f140 0
noncomputable def G:=G0 (C R c1 c2) Tryz.f140 0
def s4:=fun x0 f j m u=>(⟨eA 52 [(0,.str x0),(1,.str f),(5,.own 384),(6,.int .i64 j),(7,.int .i64 m)],[(384,.row 29 u true)],ez⟩:St)
noncomputable abbrev q4 {R:Type} (J:JT R):J4 R:=fun x0 f j m u=>J (placeOf Tryz.f140 4) (s4 x0 f j m u)
theorem k4 (J:JT R) (κ:KT R) (x0 f j m u:_):S R c1 c2 κ J 4 (s4 x0 f j m u)=t4 c1 c2 (q4 J) (K0 κ) x0 f j m u:=by kernel_rfl
theorem k (κ:KT R) (k:Nat) (a0 a1:_):cA (C R c1 c2) Tryz.f140 10000 k [.str a0,.str a1] κ=cT.e c1 c2 a0 a1 (q4 (G R c1 c2 κ k)) (K0 κ):=by kernel_rfl
theorem g4 (κ:KT R):∀ (f:Nat),q4 (G R c1 c2 κ f)=L4 c1 c2 (K0 κ) f
 | 0=>rfl
 | f+1=>by
  funext x0 j m u z
  show S R c1 c2 κ (G R c1 c2 κ f) 4 _=_
  rw [k4,g4 κ f]
  rfl
end
theorem ae {R:Type} (tab:cg) (f:ay tab) (g:Nat):bT (R:=R) Tryz.prog (ag br) tab g ((C R bQ cC).call g):=by
 refine aI fun xs κ => ?_
 show aa _ _ _ g xs κ (Γ R bQ cC g xs κ)
 unfold Γ
 split
 ·split
  ·exact bQ.aF tab f _ _ _ κ
  ·exact aa.none
 ·split
  ·exact cC.aF tab f _ _ κ
  ·exact aa.none
 ·exact aa.none
theorem aF {R:Type} (tab:cg) (f:ay tab) (a0 a1:_) (κ:KT R):aa Tryz.prog (ag br) tab 140 [.str a0,.str a1] κ (cT a0 a1 (K0 κ)):=aj (C:=C R bQ cC) (fn:=Tryz.f140) cE (ae tab f) (by kernel_rfl) (by kernel_rfl) (by rw [k];rw [g4 R bQ cC κ ah];rfl)
end cT
namespace aU
abbrev K0 {R:Type} (κ:KT R):Y1 R:=κ [.nil]
abbrev K1 {R:Type} (κ:KT R):LA->Y1 R:=fun f=>κ [.fr 29 f true]
section
variable (R:Type) (c1:cY.F R) (c2:cz.F R) (c3:cT.F R)
def Γ (g:Nat) (xs:List SV) (κ:KT R):Y1 R:=
 match g with
 | 138=>(match xs with
  | [.ro 129 a0 true,.str a1]=>c1 a0 a1 (cY.K0 κ)
  | _=>none)
 | 139=>(match xs with
  | [.str a0]=>c2 a0 (cz.K0 κ)
  | _=>none)
 | 140=>(match xs with
  | [.str a0,.str a1]=>c3 a0 a1 (cT.K0 κ)
  | _=>none)
 | _=>none
def h (n:Nat):Option (List (Nat × List (Nat × Nat))):=
 match n with
 | 11=>some [(3,[(0,0)]),(7,[(0,0)]),(8,[(0,0)])]
 | _=>none
def C:Cfg R:=⟨ag br,Γ R c1 c2 c3,fun _=>false,h,0,fun _=>false⟩
noncomputable def S:=S0 (C R c1 c2 c3) Tryz.f95 0
noncomputable def G:=G0 (C R c1 c2 c3) Tryz.f95 0
def F9:=fun x0 Y x2 x3 x4 x5 x6 x7 x8 x9 f j m u z A M N O U V W X=>(⟨eA 101 [(3,.ptr 319 0),(7,.own 512),(8,.int .i64 x0)],[(319,.var 32 [.str Y,.str x2,.str x3,.ro 129 x4 true,.bool x5,.str x6,.bool x7,.str x8,.bool x9,.str f,.bool j,.str m,.ro 129 u true,.ro 9 z true,.bool A,.str M,.int .i64 N,.int .i64 O,.int .i64 U,.int .i64 V,.int .i64 W,.nil]),(512,.row 29 X true)],ez⟩:St)
noncomputable abbrev BO {R:Type} (J:JT R):u5 R:=fun x0 Y x2 x3 x4 x5 x6 x7 x8 x9 f j m u z A M N O U V W X=>J (placeOf Tryz.f95 11) (F9 x0 Y x2 x3 x4 x5 x6 x7 x8 x9 f j m u z A M N O U V W X)
theorem HM (J:JT R) (κ:KT R) (x0 Y x2 x3 x4 x5 x6 x7 x8 x9 f j m u z A M N O U V W X:_):S R c1 c2 c3 κ J 11 (F9 x0 Y x2 x3 x4 x5 x6 x7 x8 x9 f j m u z A M N O U V W X)=t11 (BO J) (K1 κ) x0 Y x2 x3 x4 x5 x6 x7 x8 x9 f j m u z A M N O U V W X:=by kernel_rfl
theorem k (κ:KT R) (k:Nat) (a0 a1 a2 a3 a4 a5 U V W a9 f j a12 m u z A M N O a20 a21:_):cA (C R c1 c2 c3) Tryz.f95 10000 k [.str a0,.agg [.str a1,.str a2,.str a3,.ro 129 a4 true,.bool a5,.str U,.bool V,.str W,.bool a9,.str f,.bool j,.str a12,.ro 129 m true,.ro 9 u true,.bool z,.str A,.int .i64 M,.int .i64 N,.int .i64 O,.int .i64 a20,.int .i64 a21,.nil]] κ=aU.e c1 c2 c3 a0 a1 a2 a3 a4 a5 U V W a9 f j a12 m u z A M N O a20 a21 (BO (G R c1 c2 c3 κ k)) (K0 κ) (K1 κ):=by kernel_rfl
theorem g11 (κ:KT R):∀ (f:Nat),BO (G R c1 c2 c3 κ f)=tL c1 c2 c3 (K0 κ) (K1 κ) f
 | 0=>rfl
 | f+1=>by
  funext x0 x1 x2 x3 x4 x5 x6 x7 x8 x9 j m u z A M N O U V W X Y
  show S R c1 c2 c3 κ (G R c1 c2 c3 κ f) 11 _=_
  rw [HM,g11 κ f]
  rfl
end
theorem ae {R:Type} (tab:cg) (f:ay tab) (g:Nat):bT (R:=R) Tryz.prog (ag br) tab g ((C R cY cz cT).call g):=by
 refine aI fun xs κ => ?_
 show aa _ _ _ g xs κ (Γ R cY cz cT g xs κ)
 unfold Γ
 split
 ·split
  ·exact cY.aF tab f _ _ κ
  ·exact aa.none
 ·split
  ·exact cz.aF tab f _ κ
  ·exact aa.none
 ·split
  ·exact cT.aF tab f _ _ κ
  ·exact aa.none
 ·exact aa.none
theorem aF {R:Type} (tab:cg) (X:ay tab) (a0 a1 a2 a3 a4 a5 U V W a9 f j a12 m u z A M N O a20 a21:_) (κ:KT R):aa Tryz.prog (ag br) tab 95 [.str a0,.agg [.str a1,.str a2,.str a3,.ro 129 a4 true,.bool a5,.str U,.bool V,.str W,.bool a9,.str f,.bool j,.str a12,.ro 129 m true,.ro 9 u true,.bool z,.str A,.int .i64 M,.int .i64 N,.int .i64 O,.int .i64 a20,.int .i64 a21,.nil]] κ (aU a0 a1 a2 a3 a4 a5 U V W a9 f j a12 m u z A M N O a20 a21 (K0 κ) (K1 κ)):=aj (C:=C R cY cz cT) (fn:=Tryz.f95) cE (ae tab X) (by kernel_rfl) (by kernel_rfl) (by rw [k];rw [g11 R cY cz cT κ ah];rfl)
end aU
namespace bp
abbrev K0 {R:Type} (κ:KT R):BA->Y1 R:=fun f=>κ [.str f]
section
variable (R:Type) (c1:bp.F R)
def Γ (g:Nat) (xs:List SV) (κ:KT R):Y1 R:=
 match g with
 | 141=>(match xs with
  | [.int .i64 a0]=>c1 a0 (K0 κ)
  | _=>none)
 | _=>none
def h (n:Nat):Option (List (Nat × List (Nat × Nat))):=
 match n with
 | _=>none
def C:Cfg R:=⟨ag br,Γ R c1,fun _=>false,h,0,fun _=>false⟩
theorem k (κ:KT R) (k:Nat) (a0:_):cA (C R c1) Tryz.f141 10000 k [.int .i64 a0] κ=bp.e c1 a0 (K0 κ):=by kernel_rfl
end
theorem ae {R:Type} (tab:cg) (j:ay tab) (n:Nat) (f:∀ (a0:_) (κ:KT R),aa Tryz.prog (ag br) tab 141 [.int .i64 a0] κ (bp.R n a0 (K0 κ))) (g:Nat):bT (R:=R) Tryz.prog (ag br) tab g ((C R (bp.R n)).call g):=by
 refine aI fun xs κ => ?_
 show aa _ _ _ g xs κ (Γ R (bp.R n) g xs κ)
 unfold Γ
 split
 ·split
  ·exact f _ κ
  ·exact aa.none
 ·exact aa.none
theorem fW {R:Type} (tab:cg) (f:ay tab):∀ (n:Nat) (a0:_) (κ:KT R),aa Tryz.prog (ag br) tab 141 [.int .i64 a0] κ (bp.R n a0 (K0 κ))
 | 0,_,_=>aa.none
 | n+1,a0,κ=>aj (C:=C R (bp.R n)) (fn:=Tryz.f141) cE (ae tab f n (fW tab f n)) (by kernel_rfl) (by kernel_rfl) (show _=B (bp.R n) a0 (K0 κ) by rw [k];rfl)
theorem aF {R:Type} (tab:cg) (f:ay tab) (a0:_) (κ:KT R):aa Tryz.prog (ag br) tab 141 [.int .i64 a0] κ (bp a0 (K0 κ)):=fW tab f ah a0 κ
end bp
namespace bt
abbrev K0 {R:Type} (κ:KT R):BA->Y1 R:=fun f=>κ [.str f]
section
variable (R:Type) (c1:bp.F R)
def Γ (g:Nat) (xs:List SV) (κ:KT R):Y1 R:=
 match g with
 | 141=>(match xs with
  | [.int .i64 a0]=>c1 a0 (bp.K0 κ)
  | _=>none)
 | _=>none
def h (n:Nat):Option (List (Nat × List (Nat × Nat))):=
 match n with
 | _=>none
def C:Cfg R:=⟨ag br,Γ R c1,fun _=>false,h,0,fun _=>false⟩
theorem k (κ:KT R) (k:Nat) (a0 a1:_):cA (C R c1) Tryz.f96 10000 k [.str a0,.int .i64 a1] κ=bt.e c1 a0 a1 (K0 κ):=by kernel_rfl
end
theorem ae {R:Type} (tab:cg) (f:ay tab) (g:Nat):bT (R:=R) Tryz.prog (ag br) tab g ((C R bp).call g):=by
 refine aI fun xs κ => ?_
 show aa _ _ _ g xs κ (Γ R bp g xs κ)
 unfold Γ
 split
 ·split
  ·exact bp.aF tab f _ κ
  ·exact aa.none
 ·exact aa.none
theorem aF {R:Type} (tab:cg) (f:ay tab) (a0 a1:_) (κ:KT R):aa Tryz.prog (ag br) tab 96 [.str a0,.int .i64 a1] κ (bt a0 a1 (K0 κ)):=aj (C:=C R bp) (fn:=Tryz.f96) cE (ae tab f) (by kernel_rfl) (by kernel_rfl) (by rw [k];rfl)
end bt
end Go.Proofs.Ab
