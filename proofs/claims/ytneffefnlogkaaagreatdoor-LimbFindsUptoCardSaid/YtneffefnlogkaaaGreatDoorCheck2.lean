/- Each plain function is what a call of its Go function does, checked by the kernel (no condition but what its checks ask). -/
import Derived.Test.YtneffefnlogkaaaGreatDoorSeat
import Derived.Test.YtneffefnlogkaaaGreatDoorText
import Derived.Test.YtneffefnlogkaaaGreatDoorCheck1
set_option linter.unusedVariables false
set_option linter.unusedSimpArgs false
set_option maxRecDepth 4000
namespace Go.Proofs.Ab
open Go Go.Proofs
set_option maxRecDepth 100000
namespace bN
abbrev K0 {R:Type} (κ : KT R):Int->Option R:=fun f=>κ [.int .i64 f]
section
variable (R:Type) (c1:aU.F R) (c2:aL.F R)
def Γ (g:Nat) (xs:List SV) (κ : KT R):Option R :=
 match g with
 | 128=>(match xs with
  | [.str a0,.str a1]=>c2 a0 a1 (aL.K0 κ)
  | _=>none)
 | 136=>(match xs with
  | [.str a0]=>c1 a0 (aU.K0 κ)
  | _=>none)
 | _=>none
def h (n:Nat):Option (List (Nat × List (Nat × Nat))) :=
 match n with
 | 6=>some [(0,[(0,0)]),(1,[(0,0)]),(5,[(0,0)])]
 | _=>none
def C:Cfg R:=⟨af bm,Γ R c1 c2,fun _=>false,h,0,fun _=>false⟩
noncomputable def S:=S0 (C R c1 c2) Tryz.f93 0
noncomputable def G:=G0 (C R c1 c2) Tryz.f93 0
def s6:=fun x0 f j=>(⟨er 34 [(0,.str x0),(1,.str f),(5,.int .i64 j)],[],eo⟩:St)
noncomputable abbrev q6 {R:Type} (J:JT R):J6 R:=fun x0 f j=>J (placeOf Tryz.f93 6) (s6 x0 f j)
theorem k6 (J:JT R) (κ : KT R) (x0 f j:_):S R c1 c2 κ J 6 (s6 x0 f j)=t6 c2 (q6 J) (K0 κ) x0 f j:=by kernel_rfl
theorem k (κ : KT R) (k:Nat) (a0 a1:_):cr (C R c1 c2) Tryz.f93 10000 k [.str a0,.str a1] κ = bN.e c1 c2 a0 a1 (q6 (G R c1 c2 κ k)) (K0 κ):=by kernel_rfl
theorem g6 (κ : KT R):∀ (f:Nat),q6 (G R c1 c2 κ f)=L6 c1 c2 (K0 κ) f
 | 0=>rfl
 | f+1=>by
  funext x0 j m
  show S R c1 c2 κ (G R c1 c2 κ f) 6 _=_
  rw [k6,g6 κ f]
  rfl
end
theorem ae {R:Type} (tab:bZ) (f:aq tab) (g:Nat):bM (R:=R) Tryz.prog (af bm) tab g ((C R aU aL).call g):=by
 refine aF fun xs κ => ?_
 show aa _ _ _ g xs κ (Γ R aU aL g xs κ)
 unfold Γ
 split
 ·split
  ·exact aL.aG tab f _ _ κ
  ·exact aa.none
 ·split
  ·exact aU.aG tab f _ κ
  ·exact aa.none
 ·exact aa.none
theorem aG {R:Type} (tab:bZ) (f:aq tab) (a0 a1:_) (κ : KT R):aa Tryz.prog (af bm) tab 93 [.str a0,.str a1] κ (bN a0 a1 (K0 κ)):=ah (C:=C R aU aL) (fn:=Tryz.f93) cz (ae tab f) (by kernel_rfl) (by kernel_rfl) (by rw [k];rw [g6 R aU aL κ ag];rfl)
end bN
namespace aA
abbrev K0 {R:Type} (κ : KT R):Q0 R:=fun Y r1 r2 r3 r4 r5 r6 r7 r8 r9 f j m u z A M N O U V W X=>κ [.bool Y,.vp 32 [.str r1,.str r2,.str r3,.ro 129 r4 true,.bool r5,.str r6,.bool r7,.str r8,.bool r9,.str f,.bool j,.str m,.ro 129 u true,.ro 9 z true,.bool A,.str M,.int .i64 N,.int .i64 O,.int .i64 U,.int .i64 V,.int .i64 W,.ro 32 X true]]
section
variable (R:Type)
def Γ (g:Nat) (xs:List SV) (κ : KT R):Option R :=
 match g with
 | _=>none
def h (n:Nat):Option (List (Nat × List (Nat × Nat))) :=
 match n with
 | _=>none
def C:Cfg R:=⟨af bm,Γ R,fun _=>false,h,0,fun _=>false⟩
theorem k (κ : KT R) (k:Nat) (a0 a1 a2 a3 a4 a5 U V W a9 f j a12 m u z A M N O a20 a21:_):cr (C R) Tryz.f59 10000 k [.vp 32 [.str a0,.str a1,.str a2,.ro 129 a3 true,.bool a4,.str a5,.bool U,.str V,.bool W,.str a9,.bool f,.str j,.ro 129 a12 true,.ro 9 m true,.bool u,.str z,.int .i64 A,.int .i64 M,.int .i64 N,.int .i64 O,.int .i64 a20,.ro 32 a21 true]] κ = aA.e a0 a1 a2 a3 a4 a5 U V W a9 f j a12 m u z A M N O a20 a21 (K0 κ):=by kernel_rfl
end
theorem ae {R:Type} (tab:bZ) (f:aq tab) (g:Nat):bM (R:=R) Tryz.prog (af bm) tab g ((C R).call g):=by
 refine aF fun xs κ => ?_
 show aa _ _ _ g xs κ (Γ R g xs κ)
 unfold Γ
 split
 ·exact aa.none
theorem aG {R:Type} (tab:bZ) (X:aq tab) (a0 a1 a2 a3 a4 a5 U V W a9 f j a12 m u z A M N O a20 a21:_) (κ : KT R):aa Tryz.prog (af bm) tab 59 [.vp 32 [.str a0,.str a1,.str a2,.ro 129 a3 true,.bool a4,.str a5,.bool U,.str V,.bool W,.str a9,.bool f,.str j,.ro 129 a12 true,.ro 9 m true,.bool u,.str z,.int .i64 A,.int .i64 M,.int .i64 N,.int .i64 O,.int .i64 a20,.ro 32 a21 true]] κ (aA a0 a1 a2 a3 a4 a5 U V W a9 f j a12 m u z A M N O a20 a21 (K0 κ)):=ah (C:=C R) (fn:=Tryz.f59) cz (ae tab X) (by kernel_rfl) (by kernel_rfl) (by rw [k];rfl)
end aA
namespace aC
abbrev K0 {R:Type} (κ : KT R):Q0 R:=fun Y r1 r2 r3 r4 r5 r6 r7 r8 r9 f j m u z A M N O U V W X=>κ [.bool Y,.vp 32 [.str r1,.str r2,.str r3,.ro 129 r4 true,.bool r5,.str r6,.bool r7,.str r8,.bool r9,.str f,.bool j,.str m,.ro 129 u true,.ro 9 z true,.bool A,.str M,.int .i64 N,.int .i64 O,.int .i64 U,.int .i64 V,.int .i64 W,.fr 32 X true]]
section
variable (R:Type)
def Γ (g:Nat) (xs:List SV) (κ : KT R):Option R :=
 match g with
 | _=>none
def h (n:Nat):Option (List (Nat × List (Nat × Nat))) :=
 match n with
 | _=>none
def C:Cfg R:=⟨af bm,Γ R,fun _=>false,h,0,fun _=>false⟩
theorem k (κ : KT R) (k:Nat) (a0 a1 a2 a3 a4 a5 U V W a9 f j a12 m u z A M N O a20 a21:_):cr (C R) Tryz.f59 10000 k [.vp 32 [.str a0,.str a1,.str a2,.ro 129 a3 true,.bool a4,.str a5,.bool U,.str V,.bool W,.str a9,.bool f,.str j,.ro 129 a12 true,.ro 9 m true,.bool u,.str z,.int .i64 A,.int .i64 M,.int .i64 N,.int .i64 O,.int .i64 a20,.fr 32 a21 true]] κ = aC.e a0 a1 a2 a3 a4 a5 U V W a9 f j a12 m u z A M N O a20 a21 (K0 κ):=by kernel_rfl
end
theorem ae {R:Type} (tab:bZ) (f:aq tab) (g:Nat):bM (R:=R) Tryz.prog (af bm) tab g ((C R).call g):=by
 refine aF fun xs κ => ?_
 show aa _ _ _ g xs κ (Γ R g xs κ)
 unfold Γ
 split
 ·exact aa.none
theorem aG {R:Type} (tab:bZ) (X:aq tab) (a0 a1 a2 a3 a4 a5 U V W a9 f j a12 m u z A M N O a20 a21:_) (κ : KT R):aa Tryz.prog (af bm) tab 59 [.vp 32 [.str a0,.str a1,.str a2,.ro 129 a3 true,.bool a4,.str a5,.bool U,.str V,.bool W,.str a9,.bool f,.str j,.ro 129 a12 true,.ro 9 m true,.bool u,.str z,.int .i64 A,.int .i64 M,.int .i64 N,.int .i64 O,.int .i64 a20,.fr 32 a21 true]] κ (aC a0 a1 a2 a3 a4 a5 U V W a9 f j a12 m u z A M N O a20 a21 (K0 κ)):=ah (C:=C R) (fn:=Tryz.f59) cz (ae tab X) (by kernel_rfl) (by kernel_rfl) (by rw [k];rfl)
end aC
namespace bX
abbrev K0 {R:Type} (κ : KT R):Q0 R:=fun Y r1 r2 r3 r4 r5 r6 r7 r8 r9 f j m u z A M N O U V W X=>κ [.str Y,.vp 32 [.str r1,.str r2,.str r3,.ro 129 r4 true,.bool r5,.str r6,.bool r7,.str r8,.bool r9,.str f,.bool j,.str m,.ro 129 u true,.ro 9 z true,.bool A,.str M,.int .i64 N,.int .i64 O,.int .i64 U,.int .i64 V,.int .i64 W,.fr 32 X true]]
section
variable (R:Type) (c1:aC.F R) (c2:cB.F R)
def Γ (g:Nat) (xs:List SV) (κ : KT R):Option R :=
 match g with
 | 59=>(match xs with
  | [.vp 32 [.str a0,.str a1,.str a2,.ro 129 a3 true,.bool a4,.str a5,.bool U,.str V,.bool W,.str a9,.bool f,.str j,.ro 129 a12 true,.ro 9 m true,.bool u,.str z,.int .i64 A,.int .i64 M,.int .i64 N,.int .i64 O,.int .i64 a20,.fr 32 a21 true]]=>c1 a0 a1 a2 a3 a4 a5 U V W a9 f j a12 m u z A M N O a20 a21 (aC.K0 κ)
  | _=>none)
 | 135=>(match xs with
  | [.int .i64 a0]=>c2 a0 (cB.K0 κ)
  | _=>none)
 | _=>none
def h (n:Nat):Option (List (Nat × List (Nat × Nat))) :=
 match n with
 | _=>none
def C:Cfg R:=⟨af bm,Γ R c1 c2,fun _=>false,h,0,fun _=>false⟩
theorem k (κ : KT R) (k:Nat) (a0 a1 a2 a3 a4 a5 W X Y a9 f j a12 m u z A M N O a20 a21 U V a24:_):cr (C R c1 c2) Tryz.f92 10000 k [.vp 32 [.str a0,.str a1,.str a2,.ro 129 a3 true,.bool a4,.str a5,.bool W,.str X,.bool Y,.str a9,.bool f,.str j,.ro 129 a12 true,.ro 9 m true,.bool u,.str z,.int .i64 A,.int .i64 M,.int .i64 N,.int .i64 O,.int .i64 a20,.fr 32 a21 true],.int .i64 U,.bool V,.int .i64 a24] κ = bX.e c1 c2 a0 a1 a2 a3 a4 a5 W X Y a9 f j a12 m u z A M N O a20 a21 U V a24 (K0 κ):=by kernel_rfl
end
theorem ae {R:Type} (tab:bZ) (f:aq tab) (g:Nat):bM (R:=R) Tryz.prog (af bm) tab g ((C R aC cB).call g):=by
 refine aF fun xs κ => ?_
 show aa _ _ _ g xs κ (Γ R aC cB g xs κ)
 unfold Γ
 split
 ·split
  ·exact aC.aG tab f _ _ _ _ _ _ _ _ _ _ _ _ _ _ _ _ _ _ _ _ _ _ κ
  ·exact aa.none
 ·split
  ·exact cB.aG tab f _ κ
  ·exact aa.none
 ·exact aa.none
theorem aG {R:Type} (tab:bZ) (ht:aq tab) (a0 a1 a2 a3 a4 a5 W X Y a9 f j a12 m u z A M N O a20 a21 U V a24:_) (κ : KT R):aa Tryz.prog (af bm) tab 92 [.vp 32 [.str a0,.str a1,.str a2,.ro 129 a3 true,.bool a4,.str a5,.bool W,.str X,.bool Y,.str a9,.bool f,.str j,.ro 129 a12 true,.ro 9 m true,.bool u,.str z,.int .i64 A,.int .i64 M,.int .i64 N,.int .i64 O,.int .i64 a20,.fr 32 a21 true],.int .i64 U,.bool V,.int .i64 a24] κ (bX a0 a1 a2 a3 a4 a5 W X Y a9 f j a12 m u z A M N O a20 a21 U V a24 (K0 κ)):=ah (C:=C R aC cB) (fn:=Tryz.f92) cz (ae tab ht) (by kernel_rfl) (by kernel_rfl) (by rw [k];rfl)
end bX
namespace ak
abbrev K0 {R:Type} (κ : KT R):Q0 R:=fun r0 r1 r2 r3 r4 r5 r6 r7 r8 r9 f j m u z A M N O U V W X Y=>κ [.tup [],.vp 94 [.str r0,.int .i64 r1],.vp 32 [.str r2,.str r3,.str r4,.ro 129 r5 true,.bool r6,.str r7,.bool r8,.str r9,.bool f,.str j,.bool m,.str u,.ro 129 z true,.ro 9 A true,.bool M,.str N,.int .i64 O,.int .i64 U,.int .i64 V,.int .i64 W,.int .i64 X,.ro 32 Y true]]
abbrev K1 {R:Type} (κ : KT R):Q1 R:=fun Y r1 r2 r3 r4 r5 r6 r7 r8 r9 f j m u z A M N O U V W X=>κ [.tup [],.vp 94 [.str Y,.int .i64 r1],.vp 32 [.str r2,.str r3,.str r4,.nil,.bool r5,.str r6,.bool r7,.str r8,.bool r9,.str f,.bool j,.str m,.ro 129 u true,.ro 9 z true,.bool A,.str M,.int .i64 N,.int .i64 O,.int .i64 U,.int .i64 V,.int .i64 W,.ro 32 X true]]
section
variable (R:Type) (c1:aE.F R) (c2:aD.F R) (c3:bN.F R) (c4:aA.F R) (c5:bX.F R) (c6:aC.F R) (c7:ak.F R)
def Γ (g:Nat) (xs:List SV) (κ : KT R):Option R :=
 match g with
 | 48=>(match xs with
  | [.vp 94 [.str a0,.int .i64 a1],.agg [.int .i64 a2,.int .i64 a3],.bool a4]=>c2 a0 a1 a2 a3 a4 (aD.K0 κ)
  | _=>none)
 | 49=>(match xs with
  | [.vp 94 [.str a0,.int .i64 a1],.vp 32 [.str a2,.str a3,.str a4,.ro 129 a5 true,.bool V,.str W,.bool X,.str a9,.bool f,.str j,.bool a12,.str m,.ro 129 u true,.ro 9 z true,.bool A,.str M,.int .i64 N,.int .i64 O,.int .i64 a20,.int .i64 a21,.int .i64 U,.nil],.int .i64 Y,.bool a24]=>c7 a0 a1 a2 a3 a4 a5 V W X a9 f j a12 m u z A M N O a20 a21 U Y a24 (K0 κ) (K1 κ)
  | _=>none)
 | 59=>(match xs with
  | [.vp 32 [.str a0,.str a1,.str a2,.ro 129 a3 true,.bool a4,.str a5,.bool V,.str W,.bool X,.str a9,.bool f,.str j,.ro 129 a12 true,.ro 9 m true,.bool u,.str z,.int .i64 A,.int .i64 M,.int .i64 N,.int .i64 O,.int .i64 a20,.ro 32 a21 true]]=>c4 a0 a1 a2 a3 a4 a5 V W X a9 f j a12 m u z A M N O a20 a21 (aA.K0 κ)
  | [.vp 32 [.str a0,.str a1,.str a2,.ro 129 a3 true,.bool a4,.str a5,.bool V,.str W,.bool X,.str a9,.bool f,.str j,.ro 129 a12 true,.ro 9 m true,.bool u,.str z,.int .i64 A,.int .i64 M,.int .i64 N,.int .i64 O,.int .i64 a20,.fr 32 a21 true]]=>c6 a0 a1 a2 a3 a4 a5 V W X a9 f j a12 m u z A M N O a20 a21 (aC.K0 κ)
  | _=>none)
 | 91=>(match xs with
  | [.vp 94 [.str a0,.int .i64 a1],.vp 32 [.str a2,.str a3,.str a4,.ro 129 a5 true,.bool V,.str W,.bool X,.str a9,.bool f,.str j,.bool a12,.str m,.ro 129 u true,.ro 9 z true,.bool A,.str M,.int .i64 N,.int .i64 O,.int .i64 a20,.int .i64 a21,.int .i64 U,.nil]]=>c1 a0 a1 a2 a3 a4 a5 V W X a9 f j a12 m u z A M N O a20 a21 U (aE.K0 κ) (aE.K1 κ)
  | _=>none)
 | 92=>(match xs with
  | [.vp 32 [.str a0,.str a1,.str a2,.ro 129 a3 true,.bool a4,.str a5,.bool V,.str W,.bool X,.str a9,.bool f,.str j,.ro 129 a12 true,.ro 9 m true,.bool u,.str z,.int .i64 A,.int .i64 M,.int .i64 N,.int .i64 O,.int .i64 a20,.fr 32 a21 true],.int .i64 U,.bool Y,.int .i64 a24]=>c5 a0 a1 a2 a3 a4 a5 V W X a9 f j a12 m u z A M N O a20 a21 U Y a24 (bX.K0 κ)
  | _=>none)
 | 93=>(match xs with
  | [.str a0,.str a1]=>c3 a0 a1 (bN.K0 κ)
  | _=>none)
 | _=>none
def h (n:Nat):Option (List (Nat × List (Nat × Nat))) :=
 match n with
 | 2=>some [(0,[(0,0)]),(1,[(0,0)]),(2,[(0,0)]),(3,[(0,0)]),(8,[(0,31)])]
 | 5=>some [(0,[(0,0)]),(1,[(21,34)]),(2,[(0,0)]),(3,[(0,0)]),(40,[(0,0)]),(41,[(0,0)]),(42,[(0,0)])]
 | 8=>some [(0,[(0,0)]),(1,[(0,0)]),(2,[(0,0)]),(3,[(0,0)]),(9,[(0,0)]),(11,[(0,0)]),(40,[(0,0)]),(41,[(0,0)]),(42,[(0,0)])]
 | 14=>some [(0,[(0,0)]),(1,[(0,0)]),(2,[(0,0)]),(3,[(0,0)]),(40,[(0,0)]),(41,[(0,0)]),(42,[(0,0)])]
 | 15=>some [(0,[(0,0)]),(1,[(3,131),(3,1),(12,131),(12,1),(13,11),(13,1),(21,34),(21,1)])]
 | _=>none
def C:Cfg R:=⟨af bm,Γ R c1 c2 c3 c4 c5 c6 c7,fun _=>false,h,0,fun _=>false⟩
noncomputable def S:=S0 (C R c1 c2 c3 c4 c5 c6 c7) Tryz.f49 2
noncomputable def G:=G0 (C R c1 c2 c3 c4 c5 c6 c7) Tryz.f49 2
def s2:=fun x0 x1 x2 x3 x4 x5 x6 x7 x8 x9 f j m u z A M N O U V W X Y ad ae=>(⟨er 156 [(0,.ptr 0 0),(1,.ptr 1 0),(2,.int .i64 x0),(3,.bool x1),(8,.own 576)],[(1,.var 32 [.str x2,.str x3,.str x4,.ro 129 x5 true,.bool x6,.str x7,.bool x8,.str x9,.bool f,.str j,.bool m,.str u,.ro 129 z true,.ro 9 A true,.bool M,.str N,.int .i64 O,.int .i64 U,.int .i64 V,.int .i64 W,.int .i64 X,.nil]),(0,.var 94 [.str Y,.int .i64 ad]),(576,.row 29 ae true)],eo⟩:St)
def s5:=fun x0 x1 x2 x3 x4 x5 x6 x7 x8 x9 f j m u z A M N O U V W X Y ad ae ap ar ax=>(⟨er 156 [(0,.ptr 0 0),(1,.ptr 1 0),(2,.int .i64 x0),(3,.bool x1),(40,.own 2624),(41,.int .i64 x2),(42,.int .i64 x3)],[(1,.var 32 [.str x4,.str x5,.str x6,.ro 129 x7 true,.bool x8,.str x9,.bool f,.str j,.bool m,.str u,.bool z,.str A,.ro 129 M true,.ro 9 N true,.bool O,.str U,.int .i64 V,.int .i64 W,.int .i64 X,.int .i64 Y,.int .i64 ad,.own 149]),(0,.var 94 [.str ae,.int .i64 ap]),(149,.row 32 ar true),(2624,.row 29 ax true)],eo⟩:St)
def s8:=fun x0 x1 x2 x3 x4 x5 x6 x7 x8 x9 f j m u z A M N O U V W X Y ad ae ap ar ax a1 a6 a7 a8 bb be bk bs bx bP bS bV b0 b1 b2 b3 b4 b5 b' ca cl cp=>(⟨er 156 [(0,.ptr 0 0),(1,.ptr 1 0),(2,.int .i64 x0),(3,.bool x1),(9,.int .i64 x2),(11,.ptr 831 0),(40,.own 2624),(41,.int .i64 x3),(42,.int .i64 x4)],[(1,.var 32 [.str x5,.str x6,.str x7,.ro 129 x8 true,.bool x9,.str f,.bool j,.str m,.bool u,.str z,.bool A,.str M,.ro 129 N true,.ro 9 O true,.bool U,.str V,.int .i64 W,.int .i64 X,.int .i64 Y,.int .i64 ad,.int .i64 ae,.own 149]),(0,.var 94 [.str ap,.int .i64 ar]),(149,.row 32 ax true),(831,.var 32 [.str a1,.str a6,.str a7,.ro 129 a8 true,.bool bb,.str be,.bool bk,.str bs,.bool bx,.str bP,.bool bS,.str bV,.ro 129 b0 true,.ro 9 b1 true,.bool b2,.str b3,.int .i64 b4,.int .i64 b5,.int .i64 b',.int .i64 ca,.int .i64 cl,.nil]),(2624,.row 29 cp true)],eo⟩:St)
def EJ:=fun x0 x1 x2 x3 x4 x5 x6 x7 x8 x9 f j m u z A M N O U V W X Y=>(⟨er 156 [(0,.ptr 0 0),(1,.ptr 1 0)],[(1,.var 32 [.str x0,.str x1,.str x2,.ro 129 x3 true,.bool x4,.str x5,.bool x6,.str x7,.bool x8,.str x9,.bool f,.str j,.ro 129 m true,.ro 9 u true,.bool z,.str A,.int .i64 M,.int .i64 N,.int .i64 O,.int .i64 U,.int .i64 V,.ro 32 W true]),(0,.var 94 [.str X,.int .i64 Y])],eo⟩:St)
noncomputable abbrev q2 {R:Type} (J:JT R):J2 R:=fun x0 x1 x2 x3 x4 x5 x6 x7 x8 x9 f j m u z A M N O U V W X Y ad ae=>J (placeOf Tryz.f49 2) (s2 x0 x1 x2 x3 x4 x5 x6 x7 x8 x9 f j m u z A M N O U V W X Y ad ae)
noncomputable abbrev q5 {R:Type} (J:JT R):J5 R:=fun x0 x1 x2 x3 x4 x5 x6 x7 x8 x9 f j m u z A M N O U V W X Y ad ae ap ar ax=>J (placeOf Tryz.f49 5) (s5 x0 x1 x2 x3 x4 x5 x6 x7 x8 x9 f j m u z A M N O U V W X Y ad ae ap ar ax)
noncomputable abbrev q8 {R:Type} (J:JT R):J8 R:=fun x0 x1 x2 x3 x4 x5 x6 x7 x8 x9 f j m u z A M N O U V W X Y ad ae ap ar ax a1 a6 a7 a8 bb be bk bs bx bP bS bV b0 b1 b2 b3 b4 b5 b' ca cl cp=>J (placeOf Tryz.f49 8) (s8 x0 x1 x2 x3 x4 x5 x6 x7 x8 x9 f j m u z A M N O U V W X Y ad ae ap ar ax a1 a6 a7 a8 bb be bk bs bx bP bS bV b0 b1 b2 b3 b4 b5 b' ca cl cp)
noncomputable abbrev yS {R:Type} (J:JT R):qL R:=fun x0 x1 x2 x3 x4 x5 x6 x7 x8 x9 f j m u z A M N O U V W X Y ad ae ap ar ax=>J (placeOf Tryz.f49 14) (AP x0 x1 x2 x3 x4 x5 x6 x7 x8 x9 f j m u z A M N O U V W X Y ad ae ap ar ax)
noncomputable abbrev Al {R:Type} (J:JT R):sM R:=fun x0 x1 x2 x3 x4 x5 x6 x7 x8 x9 f j m u z A M N O U V W X Y=>J (placeOf Tryz.f49 15) (EJ x0 x1 x2 x3 x4 x5 x6 x7 x8 x9 f j m u z A M N O U V W X Y)
theorem k2 (J:JT R) (κ : KT R) (x0 x1 x2 x3 x4 x5 x6 x7 x8 x9 f j m u z A M N O U V W X Y ad ae:_):S R c1 c2 c3 c4 c5 c6 c7 κ J 2 (s2 x0 x1 x2 x3 x4 x5 x6 x7 x8 x9 f j m u z A M N O U V W X Y ad ae)=t2 (q5 J) (Al J) x0 x1 x2 x3 x4 x5 x6 x7 x8 x9 f j m u z A M N O U V W X Y ad ae:=by kernel_rfl
theorem k5 (J:JT R) (κ : KT R) (x0 x1 x2 x3 x4 x5 x6 x7 x8 x9 f j m u z A M N O U V W X Y ad ae ap ar ax:_):S R c1 c2 c3 c4 c5 c6 c7 κ J 5 (s5 x0 x1 x2 x3 x4 x5 x6 x7 x8 x9 f j m u z A M N O U V W X Y ad ae ap ar ax)=t5 c2 (q8 J) (Al J) x0 x1 x2 x3 x4 x5 x6 x7 x8 x9 f j m u z A M N O U V W X Y ad ae ap ar ax:=by kernel_rfl
theorem k8 (J:JT R) (κ : KT R) (x0 x1 x2 x3 x4 x5 x6 x7 x8 x9 f j m u z A M N O U V W X Y ad ae ap ar ax a1 a6 a7 a8 bb be bk bs bx bP bS bV b0 b1 b2 b3 b4 b5 b' ca cl cp:_):S R c1 c2 c3 c4 c5 c6 c7 κ J 8 (s8 x0 x1 x2 x3 x4 x5 x6 x7 x8 x9 f j m u z A M N O U V W X Y ad ae ap ar ax a1 a6 a7 a8 bb be bk bs bx bP bS bV b0 b1 b2 b3 b4 b5 b' ca cl cp)=t8 c5 c6 c7 (yS J) x0 x1 x2 x3 x4 x5 x6 x7 x8 x9 f j m u z A M N O U V W X Y ad ae ap ar ax a1 a6 a7 a8 bb be bk bs bx bP bS bV b0 b1 b2 b3 b4 b5 b' ca cl cp:=by kernel_rfl
theorem Gt (J:JT R) (κ : KT R) (x0 x1 x2 x3 x4 x5 x6 x7 x8 x9 f j m u z A M N O U V W X Y ad ae ap ar ax:_):S R c1 c2 c3 c4 c5 c6 c7 κ J 14 (AP x0 x1 x2 x3 x4 x5 x6 x7 x8 x9 f j m u z A M N O U V W X Y ad ae ap ar ax)=t14 (q5 J) x0 x1 x2 x3 x4 x5 x6 x7 x8 x9 f j m u z A M N O U V W X Y ad ae ap ar ax:=by kernel_rfl
theorem Gu (J:JT R) (κ : KT R) (x0 x1 x2 x3 x4 x5 x6 x7 x8 x9 f j m u z A M N O U V W X Y:_):S R c1 c2 c3 c4 c5 c6 c7 κ J 15 (EJ x0 x1 x2 x3 x4 x5 x6 x7 x8 x9 f j m u z A M N O U V W X Y)=t15 c3 c4 (K0 κ) (K1 κ) x0 x1 x2 x3 x4 x5 x6 x7 x8 x9 f j m u z A M N O U V W X Y:=by kernel_rfl
theorem k (κ : KT R) (k:Nat) (a0 a1 a2 a3 a4 a5 W X Y a9 f j a12 m u z A M N O a20 a21 U V a24:_):cr (C R c1 c2 c3 c4 c5 c6 c7) Tryz.f49 10000 k [.vp 94 [.str a0,.int .i64 a1],.vp 32 [.str a2,.str a3,.str a4,.ro 129 a5 true,.bool W,.str X,.bool Y,.str a9,.bool f,.str j,.bool a12,.str m,.ro 129 u true,.ro 9 z true,.bool A,.str M,.int .i64 N,.int .i64 O,.int .i64 a20,.int .i64 a21,.int .i64 U,.nil],.int .i64 V,.bool a24] κ = ak.e c1 c2 c3 c4 c5 c6 c7 a0 a1 a2 a3 a4 a5 W X Y a9 f j a12 m u z A M N O a20 a21 U V a24 (q2 (G R c1 c2 c3 c4 c5 c6 c7 κ k)) (q5 (G R c1 c2 c3 c4 c5 c6 c7 κ k)) (q8 (G R c1 c2 c3 c4 c5 c6 c7 κ k)) (yS (G R c1 c2 c3 c4 c5 c6 c7 κ k)) (Al (G R c1 c2 c3 c4 c5 c6 c7 κ k)) (K0 κ) (K1 κ):=by kernel_rfl
theorem g15 (κ : KT R):∀ (f:Nat),Al (G R c1 c2 c3 c4 c5 c6 c7 κ f)=n9 c1 c2 c3 c4 c5 c6 c7 (K0 κ) (K1 κ) f
 | 0=>rfl
 | f+1=>by
  funext x0 x1 x2 x3 x4 x5 x6 x7 x8 x9 j m u z A M N O U V W X Y ad
  show S R c1 c2 c3 c4 c5 c6 c7 κ (G R c1 c2 c3 c4 c5 c6 c7 κ f) 15 _=_
  rw [Gu]
  rfl
theorem Ep (κ : KT R):∀ (f:Nat),(q5 (G R c1 c2 c3 c4 c5 c6 c7 κ f)=L5 c1 c2 c3 c4 c5 c6 c7 (K0 κ) (K1 κ) f)/\(q8 (G R c1 c2 c3 c4 c5 c6 c7 κ f)=L8 c1 c2 c3 c4 c5 c6 c7 (K0 κ) (K1 κ) f)/\(yS (G R c1 c2 c3 c4 c5 c6 c7 κ f)=sO c1 c2 c3 c4 c5 c6 c7 (K0 κ) (K1 κ) f)
 | 0=>⟨rfl,rfl,rfl⟩
 | f+1=>by
  obtain ⟨a6,a7,a8⟩:=Ep κ f
  refine ⟨?_,?_,?_⟩
  ·funext x0 x1 x2 x3 x4 x5 x6 x7 x8 x9 j m u z A M N O U V W X Y ad ae ap ar ax a1
   show S R c1 c2 c3 c4 c5 c6 c7 κ (G R c1 c2 c3 c4 c5 c6 c7 κ f) 5 _=_
   rw [k5,a7,g15 R c1 c2 c3 c4 c5 c6 c7 κ f]
   rfl
  ·funext x0 x1 x2 x3 x4 x5 x6 x7 x8 x9 j m u z A M N O U V W X Y ad ae ap ar ax a1 bb be bk bs bx bP bS bV b0 b1 b2 b3 b4 b5 b' ca cl cp ct c0 c' dg
   show S R c1 c2 c3 c4 c5 c6 c7 κ (G R c1 c2 c3 c4 c5 c6 c7 κ f) 8 _=_
   rw [k8,a8]
   rfl
  ·funext x0 x1 x2 x3 x4 x5 x6 x7 x8 x9 j m u z A M N O U V W X Y ad ae ap ar ax a1
   show S R c1 c2 c3 c4 c5 c6 c7 κ (G R c1 c2 c3 c4 c5 c6 c7 κ f) 14 _=_
   rw [Gt,a6]
   rfl
theorem g5 (κ : KT R) (f:Nat):q5 (G R c1 c2 c3 c4 c5 c6 c7 κ f)=L5 c1 c2 c3 c4 c5 c6 c7 (K0 κ) (K1 κ) f:=(Ep R c1 c2 c3 c4 c5 c6 c7 κ f).1
theorem g8 (κ : KT R) (f:Nat):q8 (G R c1 c2 c3 c4 c5 c6 c7 κ f)=L8 c1 c2 c3 c4 c5 c6 c7 (K0 κ) (K1 κ) f:=(Ep R c1 c2 c3 c4 c5 c6 c7 κ f).2.1
theorem g14 (κ : KT R) (f:Nat):yS (G R c1 c2 c3 c4 c5 c6 c7 κ f)=sO c1 c2 c3 c4 c5 c6 c7 (K0 κ) (K1 κ) f:=(Ep R c1 c2 c3 c4 c5 c6 c7 κ f).2.2
theorem g2 (κ : KT R):∀ (f:Nat),q2 (G R c1 c2 c3 c4 c5 c6 c7 κ f)=L2 c1 c2 c3 c4 c5 c6 c7 (K0 κ) (K1 κ) f
 | 0=>rfl
 | f+1=>by
  funext x0 x1 x2 x3 x4 x5 x6 x7 x8 x9 j m u z A M N O U V W X Y ad ae ap
  show S R c1 c2 c3 c4 c5 c6 c7 κ (G R c1 c2 c3 c4 c5 c6 c7 κ f) 2 _=_
  rw [k2,g5 R c1 c2 c3 c4 c5 c6 c7 κ f,g15 R c1 c2 c3 c4 c5 c6 c7 κ f]
  rfl
end
theorem ae {R:Type} (tab:bZ) (f:aq tab) (n:Nat) (ih:∀ (a0 a1 a2 a3 a4 a5 X Y a8 a9 j m a12 u z A M N O U a20 a21 V W a24:_) (κ : KT R),aa Tryz.prog (af bm) tab 49 [.vp 94 [.str a0,.int .i64 a1],.vp 32 [.str a2,.str a3,.str a4,.ro 129 a5 true,.bool X,.str Y,.bool a8,.str a9,.bool j,.str m,.bool a12,.str u,.ro 129 z true,.ro 9 A true,.bool M,.str N,.int .i64 O,.int .i64 U,.int .i64 a20,.int .i64 a21,.int .i64 V,.nil],.int .i64 W,.bool a24] κ (ak.R n a0 a1 a2 a3 a4 a5 X Y a8 a9 j m a12 u z A M N O U a20 a21 V W a24 (K0 κ) (K1 κ))) (g:Nat):bM (R:=R) Tryz.prog (af bm) tab g ((C R aE aD bN aA bX aC (ak.R n)).call g):=by
 refine aF fun xs κ => ?_
 show aa _ _ _ g xs κ (Γ R aE aD bN aA bX aC (ak.R n) g xs κ)
 unfold Γ
 split
 ·split
  ·exact aD.aG tab f _ _ _ _ _ κ
  ·exact aa.none
 ·split
  ·exact ih _ _ _ _ _ _ _ _ _ _ _ _ _ _ _ _ _ _ _ _ _ _ _ _ _ κ
  ·exact aa.none
 ·split
  ·exact aA.aG tab f _ _ _ _ _ _ _ _ _ _ _ _ _ _ _ _ _ _ _ _ _ _ κ
  ·exact aC.aG tab f _ _ _ _ _ _ _ _ _ _ _ _ _ _ _ _ _ _ _ _ _ _ κ
  ·exact aa.none
 ·split
  ·exact aE.aG tab f _ _ _ _ _ _ _ _ _ _ _ _ _ _ _ _ _ _ _ _ _ _ _ κ
  ·exact aa.none
 ·split
  ·exact bX.aG tab f _ _ _ _ _ _ _ _ _ _ _ _ _ _ _ _ _ _ _ _ _ _ _ _ _ κ
  ·exact aa.none
 ·split
  ·exact bN.aG tab f _ _ κ
  ·exact aa.none
 ·exact aa.none
theorem eO {R:Type} (tab:bZ) (ht:aq tab):∀ (n:Nat) (a0 a1 a2 a3 a4 a5 W X Y a9 f j a12 m u z A M N O a20 a21 U V a24:_) (κ : KT R),aa Tryz.prog (af bm) tab 49 [.vp 94 [.str a0,.int .i64 a1],.vp 32 [.str a2,.str a3,.str a4,.ro 129 a5 true,.bool W,.str X,.bool Y,.str a9,.bool f,.str j,.bool a12,.str m,.ro 129 u true,.ro 9 z true,.bool A,.str M,.int .i64 N,.int .i64 O,.int .i64 a20,.int .i64 a21,.int .i64 U,.nil],.int .i64 V,.bool a24] κ (ak.R n a0 a1 a2 a3 a4 a5 W X Y a9 f j a12 m u z A M N O a20 a21 U V a24 (K0 κ) (K1 κ))
 | 0,_,_,_,_,_,_,_,_,_,_,_,_,_,_,_,_,_,_,_,_,_,_,_,_,_,_=>aa.none
 | n+1,a0,a1,a2,a3,a4,a5,W,X,Y,a9,f,j,a12,m,u,z,A,M,N,O,a20,a21,U,V,a24,κ => ah (C:=C R aE aD bN aA bX aC (ak.R n)) (fn:=Tryz.f49) cz (ae tab ht n (eO tab ht n)) (by kernel_rfl) (by kernel_rfl) (show _=B aE aD bN aA bX aC (ak.R n) a0 a1 a2 a3 a4 a5 W X Y a9 f j a12 m u z A M N O a20 a21 U V a24 (K0 κ) (K1 κ) by rw [k];rw [g2 R aE aD bN aA bX aC (ak.R n) κ ag,g5 R aE aD bN aA bX aC (ak.R n) κ ag,g8 R aE aD bN aA bX aC (ak.R n) κ ag,g14 R aE aD bN aA bX aC (ak.R n) κ ag,g15 R aE aD bN aA bX aC (ak.R n) κ ag];rfl)
theorem aG {R:Type} (tab:bZ) (ht:aq tab) (a0 a1 a2 a3 a4 a5 W X Y a9 f j a12 m u z A M N O a20 a21 U V a24:_) (κ : KT R):aa Tryz.prog (af bm) tab 49 [.vp 94 [.str a0,.int .i64 a1],.vp 32 [.str a2,.str a3,.str a4,.ro 129 a5 true,.bool W,.str X,.bool Y,.str a9,.bool f,.str j,.bool a12,.str m,.ro 129 u true,.ro 9 z true,.bool A,.str M,.int .i64 N,.int .i64 O,.int .i64 a20,.int .i64 a21,.int .i64 U,.nil],.int .i64 V,.bool a24] κ (ak a0 a1 a2 a3 a4 a5 W X Y a9 f j a12 m u z A M N O a20 a21 U V a24 (K0 κ) (K1 κ)):=eO tab ht ag a0 a1 a2 a3 a4 a5 W X Y a9 f j a12 m u z A M N O a20 a21 U V a24 κ
end ak
namespace bu
abbrev K0 {R:Type} (κ : KT R):Q0 R:=fun X Y r2 r3 r4 r5 r6 r7 r8 r9 f j m u z A M N O U V W=>κ [.agg [.str X,.str Y,.str r2,.ro 129 r3 true,.bool r4,.str r5,.bool r6,.str r7,.bool r8,.str r9,.bool f,.str j,.ro 129 m true,.ro 9 u true,.bool z,.str A,.int .i64 M,.int .i64 N,.int .i64 O,.int .i64 U,.int .i64 V,.ro 32 W true]]
section
variable (R:Type) (c1:aD.F R) (c2:ak.F R)
def Γ (g:Nat) (xs:List SV) (κ : KT R):Option R :=
 match g with
 | 48=>(match xs with
  | [.vp 94 [.str a0,.int .i64 a1],.agg [.int .i64 a2,.int .i64 a3],.bool a4]=>c1 a0 a1 a2 a3 a4 (aD.K0 κ)
  | _=>none)
 | 49=>(match xs with
  | [.vp 94 [.str a0,.int .i64 a1],.vp 32 [.str a2,.str a3,.str a4,.ro 129 a5 true,.bool W,.str X,.bool Y,.str a9,.bool f,.str j,.bool a12,.str m,.ro 129 u true,.ro 9 z true,.bool A,.str M,.int .i64 N,.int .i64 O,.int .i64 a20,.int .i64 a21,.int .i64 U,.nil],.int .i64 V,.bool a24]=>c2 a0 a1 a2 a3 a4 a5 W X Y a9 f j a12 m u z A M N O a20 a21 U V a24 (ak.K0 κ) (ak.K1 κ)
  | _=>none)
 | _=>none
def h (n:Nat):Option (List (Nat × List (Nat × Nat))) :=
 match n with
 | 4=>some [(2,[(0,0)]),(4,[(3,131),(3,1),(12,131),(12,1),(13,11),(13,1),(21,34),(21,1)])]
 | _=>none
def C:Cfg R:=⟨af bm,Γ R c1 c2,fun _=>false,h,0,fun _=>false⟩
noncomputable def S:=S0 (C R c1 c2) Tryz.f14 0
noncomputable def G:=G0 (C R c1 c2) Tryz.f14 0
def s4:=fun x0 x1 x2 x3 x4 x5 x6 x7 x8 x9 f j m u z A M N O U V W X Y ad ae ap ar ax a1 a6 a7 a8 bb be bk bs bx bP bS=>(⟨er 16 [(2,.ptr 255 0),(4,.ptr 383 0)],[(255,.var 32 [.str x0,.str x1,.str x2,.nil,.bool x3,.str x4,.bool x5,.str x6,.bool x7,.str x8,.bool x9,.str f,.nil,.nil,.bool j,.str m,.int .i64 u,.int .i64 z,.int .i64 A,.int .i64 M,.int .i64 N,.nil]),(383,.var 32 [.str O,.str U,.str V,.ro 129 W true,.bool X,.str Y,.bool ad,.str ae,.bool ap,.str ar,.bool ax,.str a1,.ro 129 a6 true,.ro 9 a7 true,.bool a8,.str bb,.int .i64 be,.int .i64 bk,.int .i64 bs,.int .i64 bx,.int .i64 bP,.ro 32 bS true])],eo⟩:St)
noncomputable abbrev q4 {R:Type} (J:JT R):J4 R:=fun x0 x1 x2 x3 x4 x5 x6 x7 x8 x9 f j m u z A M N O U V W X Y ad ae ap ar ax a1 a6 a7 a8 bb be bk bs bx bP bS=>J (placeOf Tryz.f14 4) (s4 x0 x1 x2 x3 x4 x5 x6 x7 x8 x9 f j m u z A M N O U V W X Y ad ae ap ar ax a1 a6 a7 a8 bb be bk bs bx bP bS)
theorem k4 (J:JT R) (κ : KT R) (x0 x1 x2 x3 x4 x5 x6 x7 x8 x9 f j m u z A M N O U V W X Y ad ae ap ar ax a1 a6 a7 a8 bb be bk bs bx bP bS:_):S R c1 c2 κ J 4 (s4 x0 x1 x2 x3 x4 x5 x6 x7 x8 x9 f j m u z A M N O U V W X Y ad ae ap ar ax a1 a6 a7 a8 bb be bk bs bx bP bS)=t4 (K0 κ) x0 x1 x2 x3 x4 x5 x6 x7 x8 x9 f j m u z A M N O U V W X Y ad ae ap ar ax a1 a6 a7 a8 bb be bk bs bx bP bS:=by kernel_rfl
theorem k (κ : KT R) (k:Nat) (a0:_):cr (C R c1 c2) Tryz.f14 10000 k [.str a0] κ = bu.e c1 c2 a0 (q4 (G R c1 c2 κ k)) (K0 κ):=by kernel_rfl
theorem g4 (κ : KT R):∀ (f:Nat),q4 (G R c1 c2 κ f)=L4 c1 c2 (K0 κ) f
 | 0=>rfl
 | f+1=>by
  funext x0 x1 x2 x3 x4 x5 x6 x7 x8 x9 j m u z A M N O U V W X Y ad ae ap ar ax a1 a6 a7 a8 bb be bk bs bx bP bS bV
  show S R c1 c2 κ (G R c1 c2 κ f) 4 _=_
  rw [k4]
  rfl
end
theorem ae {R:Type} (tab:bZ) (f:aq tab) (g:Nat):bM (R:=R) Tryz.prog (af bm) tab g ((C R aD ak).call g):=by
 refine aF fun xs κ => ?_
 show aa _ _ _ g xs κ (Γ R aD ak g xs κ)
 unfold Γ
 split
 ·split
  ·exact aD.aG tab f _ _ _ _ _ κ
  ·exact aa.none
 ·split
  ·exact ak.aG tab f _ _ _ _ _ _ _ _ _ _ _ _ _ _ _ _ _ _ _ _ _ _ _ _ _ κ
  ·exact aa.none
 ·exact aa.none
theorem aG {R:Type} (tab:bZ) (f:aq tab) (a0:_) (κ : KT R):aa Tryz.prog (af bm) tab 14 [.str a0] κ (bu a0 (K0 κ)):=ah (C:=C R aD ak) (fn:=Tryz.f14) cz (ae tab f) (by kernel_rfl) (by kernel_rfl) (by rw [k];rw [g4 R aD ak κ ag];rfl)
end bu
namespace dB
abbrev K0 {R:Type} (κ : KT R):BA->Option R:=fun f=>κ [.str f]
section
variable (R:Type)
def Γ (g:Nat) (xs:List SV) (κ : KT R):Option R :=
 match g with
 | _=>none
def h (n:Nat):Option (List (Nat × List (Nat × Nat))) :=
 match n with
 | _=>none
def C:Cfg R:=⟨af bm,Γ R,fun _=>false,h,0,fun _=>false⟩
theorem k (κ : KT R) (k:Nat) (a0 a1 a2:_):cr (C R) Tryz.f46 10000 k [.str a0,.int .i64 a1,.int .i64 a2] κ = dB.e a0 a1 a2 (K0 κ):=by kernel_rfl
end
theorem ae {R:Type} (tab:bZ) (f:aq tab) (g:Nat):bM (R:=R) Tryz.prog (af bm) tab g ((C R).call g):=by
 refine aF fun xs κ => ?_
 show aa _ _ _ g xs κ (Γ R g xs κ)
 unfold Γ
 split
 ·exact aa.none
theorem aG {R:Type} (tab:bZ) (f:aq tab) (a0 a1 a2:_) (κ : KT R):aa Tryz.prog (af bm) tab 46 [.str a0,.int .i64 a1,.int .i64 a2] κ (dB a0 a1 a2 (K0 κ)):=ah (C:=C R) (fn:=Tryz.f46) cz (ae tab f) (by kernel_rfl) (by kernel_rfl) (by rw [k];rfl)
end dB
namespace cm
abbrev K0 {R:Type} (κ : KT R):Bool->Option R:=fun f=>κ [.bool f]
section
variable (R:Type) (c1:bu.F R) (c2:dB.F R)
def Γ (g:Nat) (xs:List SV) (κ : KT R):Option R :=
 match g with
 | 14=>(match xs with
  | [.str a0]=>c1 a0 (bu.K0 κ)
  | _=>none)
 | 46=>(match xs with
  | [.str a0,.int .i64 a1,.int .i64 a2]=>c2 a0 a1 a2 (dB.K0 κ)
  | _=>none)
 | _=>none
def h (n:Nat):Option (List (Nat × List (Nat × Nat))) :=
 match n with
 | _=>none
def C:Cfg R:=⟨af bm,Γ R c1 c2,fun _=>false,h,0,fun _=>false⟩
theorem k (κ : KT R) (k:Nat):cr (C R c1 c2) Tryz.f12 10000 k [] κ = cm.e c1 c2 (K0 κ):=by kernel_rfl
end
theorem ae {R:Type} (tab:bZ) (f:aq tab) (g:Nat):bM (R:=R) Tryz.prog (af bm) tab g ((C R bu dB).call g):=by
 refine aF fun xs κ => ?_
 show aa _ _ _ g xs κ (Γ R bu dB g xs κ)
 unfold Γ
 split
 ·split
  ·exact bu.aG tab f _ κ
  ·exact aa.none
 ·split
  ·exact dB.aG tab f _ _ _ κ
  ·exact aa.none
 ·exact aa.none
theorem aG {R:Type} (tab:bZ) (f:aq tab) (κ : KT R):aa Tryz.prog (af bm) tab 12 [] κ (cm (K0 κ)):=ah (C:=C R bu dB) (fn:=Tryz.f12) cz (ae tab f) (by kernel_rfl) (by kernel_rfl) (by rw [k];rfl)
end cm
namespace bD
abbrev K0 {R:Type} (κ : KT R):LA->Option R:=fun f=>κ [.fr 9 f true]
section
variable (R:Type)
def Γ (g:Nat) (xs:List SV) (κ : KT R):Option R :=
 match g with
 | _=>none
def h (n:Nat):Option (List (Nat × List (Nat × Nat))) :=
 match n with
 | 4=>some [(0,[(0,0)]),(3,[(0,11)]),(4,[(0,0)]),(5,[(0,0)])]
 | _=>none
def C:Cfg R:=⟨af bm,Γ R,fun _=>false,h,0,fun _=>false⟩
noncomputable def S:=S0 (C R) Tryz.f142 0
noncomputable def G:=G0 (C R) Tryz.f142 0
def s4:=fun x0 f j m=>(⟨er 47 [(0,.str x0),(3,.own 256),(4,.int .i64 f),(5,.int .i64 j)],[(256,.row 9 m true)],eo⟩:St)
noncomputable abbrev q4 {R:Type} (J:JT R):J4 R:=fun x0 f j m=>J (placeOf Tryz.f142 4) (s4 x0 f j m)
theorem k4 (J:JT R) (κ : KT R) (x0 f j m:_):S R κ J 4 (s4 x0 f j m)=t4 (q4 J) (K0 κ) x0 f j m:=by kernel_rfl
theorem k (κ : KT R) (k:Nat) (a0:_):cr (C R) Tryz.f142 10000 k [.str a0] κ = bD.e a0 (q4 (G R κ k)) (K0 κ):=by kernel_rfl
theorem g4 (κ : KT R):∀ (f:Nat),q4 (G R κ f)=L4 (K0 κ) f
 | 0=>rfl
 | f+1=>by
  funext x0 j m u
  show S R κ (G R κ f) 4 _=_
  rw [k4,g4 κ f]
  rfl
end
theorem ae {R:Type} (tab:bZ) (f:aq tab) (g:Nat):bM (R:=R) Tryz.prog (af bm) tab g ((C R).call g):=by
 refine aF fun xs κ => ?_
 show aa _ _ _ g xs κ (Γ R g xs κ)
 unfold Γ
 split
 ·exact aa.none
theorem aG {R:Type} (tab:bZ) (f:aq tab) (a0:_) (κ : KT R):aa Tryz.prog (af bm) tab 142 [.str a0] κ (bD a0 (K0 κ)):=ah (C:=C R) (fn:=Tryz.f142) cz (ae tab f) (by kernel_rfl) (by kernel_rfl) (by rw [k];rw [g4 R κ ag];rfl)
end bD
namespace cG
abbrev K0 {R:Type} (κ : KT R):BA->BA->Option R:=fun f j=>κ [.tup [.str f,.str j]]
section
variable (R:Type) (c1:bD.F R)
def Γ (g:Nat) (xs:List SV) (κ : KT R):Option R :=
 match g with
 | 142=>(match xs with
  | [.str a0]=>c1 a0 (bD.K0 κ)
  | _=>none)
 | _=>none
def h (n:Nat):Option (List (Nat × List (Nat × Nat))) :=
 match n with
 | 4=>some [(0,[(0,0)]),(4,[(0,0)]),(5,[(0,0)]),(6,[(0,0)])]
 | _=>none
def C:Cfg R:=⟨af bm,Γ R c1,fun _=>false,h,0,fun _=>false⟩
noncomputable def S:=S0 (C R c1) Tryz.f97 0
noncomputable def G:=G0 (C R c1) Tryz.f97 0
def s4:=fun x0 f j m=>(⟨er 34 [(0,.str x0),(4,.int .i64 f),(5,.own 384),(6,.int .i64 j)],[(384,.row 9 m true)],eo⟩:St)
noncomputable abbrev q4 {R:Type} (J:JT R):J4 R:=fun x0 f j m=>J (placeOf Tryz.f97 4) (s4 x0 f j m)
theorem k4 (J:JT R) (κ : KT R) (x0 f j m:_):S R c1 κ J 4 (s4 x0 f j m)=t4 (q4 J) (K0 κ) x0 f j m:=by kernel_rfl
theorem k (κ : KT R) (k:Nat) (a0:_):cr (C R c1) Tryz.f97 10000 k [.str a0] κ = cG.e c1 a0 (q4 (G R c1 κ k)) (K0 κ):=by kernel_rfl
theorem g4 (κ : KT R):∀ (f:Nat),q4 (G R c1 κ f)=L4 c1 (K0 κ) f
 | 0=>rfl
 | f+1=>by
  funext x0 j m u
  show S R c1 κ (G R c1 κ f) 4 _=_
  rw [k4,g4 κ f]
  rfl
end
theorem ae {R:Type} (tab:bZ) (f:aq tab) (g:Nat):bM (R:=R) Tryz.prog (af bm) tab g ((C R bD).call g):=by
 refine aF fun xs κ => ?_
 show aa _ _ _ g xs κ (Γ R bD g xs κ)
 unfold Γ
 split
 ·split
  ·exact bD.aG tab f _ κ
  ·exact aa.none
 ·exact aa.none
theorem aG {R:Type} (tab:bZ) (f:aq tab) (a0:_) (κ : KT R):aa Tryz.prog (af bm) tab 97 [.str a0] κ (cG a0 (K0 κ)):=ah (C:=C R bD) (fn:=Tryz.f97) cz (ae tab f) (by kernel_rfl) (by kernel_rfl) (by rw [k];rw [g4 R bD κ ag];rfl)
end cG
namespace aP
abbrev K0 {R:Type} (κ : KT R):Bool->Option R:=fun f=>κ [.bool f]
section
variable (R:Type)
def Γ (g:Nat) (xs:List SV) (κ : KT R):Option R :=
 match g with
 | _=>none
def h (n:Nat):Option (List (Nat × List (Nat × Nat))) :=
 match n with
 | _=>none
def C:Cfg R:=⟨af bm,Γ R,fun _=>false,h,0,fun _=>false⟩
theorem k (κ : KT R) (k:Nat) (a0:_):cr (C R) Tryz.f154 10000 k [.int .u8 a0] κ = aP.e a0 (K0 κ):=by kernel_rfl
end
theorem ae {R:Type} (tab:bZ) (f:aq tab) (g:Nat):bM (R:=R) Tryz.prog (af bm) tab g ((C R).call g):=by
 refine aF fun xs κ => ?_
 show aa _ _ _ g xs κ (Γ R g xs κ)
 unfold Γ
 split
 ·exact aa.none
theorem aG {R:Type} (tab:bZ) (f:aq tab) (a0:_) (κ : KT R):aa Tryz.prog (af bm) tab 154 [.int .u8 a0] κ (aP a0 (K0 κ)):=ah (C:=C R) (fn:=Tryz.f154) cz (ae tab f) (by kernel_rfl) (by kernel_rfl) (by rw [k];rfl)
end aP
namespace bT
abbrev K0 {R:Type} (κ : KT R):Int->Int->Option R:=fun f j=>κ [.tup [.int .i64 f,.int .i64 j]]
section
variable (R:Type) (c1:aP.F R)
def Γ (g:Nat) (xs:List SV) (κ : KT R):Option R :=
 match g with
 | 154=>(match xs with
  | [.int .u8 a0]=>c1 a0 (aP.K0 κ)
  | _=>none)
 | _=>none
def h (n:Nat):Option (List (Nat × List (Nat × Nat))) :=
 match n with
 | 2=>some [(0,[(0,0)]),(4,[(0,0)])]
 | 5=>some [(0,[(0,0)]),(4,[(0,0)]),(5,[(0,0)])]
 | _=>none
def C:Cfg R:=⟨af bm,Γ R c1,fun _=>false,h,0,fun _=>false⟩
noncomputable def S:=S0 (C R c1) Tryz.f155 0
noncomputable def G:=G0 (C R c1) Tryz.f155 0
def s2:=fun x0 f=>(⟨er 59 [(0,.str x0),(4,.int .i64 f)],[],eo⟩:St)
def s5:=fun x0 f j=>(⟨er 59 [(0,.str x0),(4,.int .i64 f),(5,.int .i64 j)],[],eo⟩:St)
noncomputable abbrev q2 {R:Type} (J:JT R):BA->Int->Option R:=fun x0 f=>J (placeOf Tryz.f155 2) (s2 x0 f)
noncomputable abbrev q5 {R:Type} (J:JT R):J5 R:=fun x0 f j=>J (placeOf Tryz.f155 5) (s5 x0 f j)
theorem k2 (J:JT R) (κ : KT R) (x0 f:_):S R c1 κ J 2 (s2 x0 f)=t2 (q2 J) (q5 J) x0 f:=by kernel_rfl
theorem k5 (J:JT R) (κ : KT R) (x0 f j:_):S R c1 κ J 5 (s5 x0 f j)=t5 c1 (q5 J) (K0 κ) x0 f j:=by kernel_rfl
theorem k (κ : KT R) (k:Nat) (a0:_):cr (C R c1) Tryz.f155 10000 k [.str a0] κ = bT.e c1 a0 (q2 (G R c1 κ k)) (q5 (G R c1 κ k)) (K0 κ):=by kernel_rfl
theorem g5 (κ : KT R):∀ (f:Nat),q5 (G R c1 κ f)=L5 c1 (K0 κ) f
 | 0=>rfl
 | f+1=>by
  funext x0 j m
  show S R c1 κ (G R c1 κ f) 5 _=_
  rw [k5,g5 κ f]
  rfl
theorem g2 (κ : KT R):∀ (f:Nat),q2 (G R c1 κ f)=L2 c1 (K0 κ) f
 | 0=>rfl
 | f+1=>by
  funext x0 j
  show S R c1 κ (G R c1 κ f) 2 _=_
  rw [k2,g2 κ f,g5 R c1 κ f]
  rfl
end
theorem ae {R:Type} (tab:bZ) (f:aq tab) (g:Nat):bM (R:=R) Tryz.prog (af bm) tab g ((C R aP).call g):=by
 refine aF fun xs κ => ?_
 show aa _ _ _ g xs κ (Γ R aP g xs κ)
 unfold Γ
 split
 ·split
  ·exact aP.aG tab f _ κ
  ·exact aa.none
 ·exact aa.none
theorem aG {R:Type} (tab:bZ) (f:aq tab) (a0:_) (κ : KT R):aa Tryz.prog (af bm) tab 155 [.str a0] κ (bT a0 (K0 κ)):=ah (C:=C R aP) (fn:=Tryz.f155) cz (ae tab f) (by kernel_rfl) (by kernel_rfl) (by rw [k];rw [g2 R aP κ ag,g5 R aP κ ag];rfl)
end bT
namespace cW
abbrev K0 {R:Type} (κ : KT R):BA->Option R:=fun f=>κ [.str f]
section
variable (R:Type)
def Γ (g:Nat) (xs:List SV) (κ : KT R):Option R :=
 match g with
 | _=>none
def h (n:Nat):Option (List (Nat × List (Nat × Nat))) :=
 match n with
 | _=>none
def C:Cfg R:=⟨af bm,Γ R,fun _=>false,h,0,fun _=>false⟩
theorem k (κ : KT R) (k:Nat) (a0:_):cr (C R) Tryz.f117 10000 k [.str a0] κ = cW.e a0 (K0 κ):=by kernel_rfl
end
theorem ae {R:Type} (tab:bZ) (f:aq tab) (g:Nat):bM (R:=R) Tryz.prog (af bm) tab g ((C R).call g):=by
 refine aF fun xs κ => ?_
 show aa _ _ _ g xs κ (Γ R g xs κ)
 unfold Γ
 split
 ·exact aa.none
theorem aG {R:Type} (tab:bZ) (f:aq tab) (a0:_) (κ : KT R):aa Tryz.prog (af bm) tab 117 [.str a0] κ (cW a0 (K0 κ)):=ah (C:=C R) (fn:=Tryz.f117) cz (ae tab f) (by kernel_rfl) (by kernel_rfl) (by rw [k];rfl)
end cW
namespace cI
abbrev K0 {R:Type} (κ : KT R):LA->Option R:=fun f=>κ [.fr 168 f true]
section
variable (R:Type) (c1:bD.F R) (c2:aP.F R) (c3:cW.F R) (c4:bT.F R)
def Γ (g:Nat) (xs:List SV) (κ : KT R):Option R :=
 match g with
 | 117=>(match xs with
  | [.str a0]=>c3 a0 (cW.K0 κ)
  | _=>none)
 | 142=>(match xs with
  | [.str a0]=>c1 a0 (bD.K0 κ)
  | _=>none)
 | 154=>(match xs with
  | [.int .u8 a0]=>c2 a0 (aP.K0 κ)
  | _=>none)
 | 155=>(match xs with
  | [.str a0]=>c4 a0 (bT.K0 κ)
  | _=>none)
 | _=>none
def h (n:Nat):Option (List (Nat × List (Nat × Nat))) :=
 match n with
 | 4=>some [(3,[(0,170)]),(4,[(0,0)]),(5,[(0,0)])]
 | 5=>some [(3,[(0,0)]),(4,[(0,0)]),(5,[(0,0)])]
 | 11=>some [(3,[(0,0)]),(4,[(0,0)]),(5,[(0,0)]),(6,[(0,0)])]
 | _=>none
def C:Cfg R:=⟨af bm,Γ R c1 c2 c3 c4,fun _=>false,h,0,fun _=>false⟩
noncomputable def S:=S0 (C R c1 c2 c3 c4) Tryz.f115 0
noncomputable def G:=G0 (C R c1 c2 c3 c4) Tryz.f115 0
def s4:=fun x0 f j=>(⟨er 93 [(3,.own 256),(4,.own 320),(5,.int .i64 x0)],[(256,.row 168 f true),(320,.row 9 j true)],eo⟩:St)
def s5:=fun x0 f j=>(⟨er 93 [(3,.own 256),(4,.own 320),(5,.int .i64 x0)],[(256,.row 168 f true),(320,.row 9 j true)],eo⟩:St)
def EI:=fun x0 f j m=>(⟨er 93 [(3,.own 256),(4,.own 320),(5,.int .i64 x0),(6,.str f)],[(256,.row 168 j true),(320,.row 9 m true)],eo⟩:St)
noncomputable abbrev q4 {R:Type} (J:JT R):J4 R:=fun x0 f j=>J (placeOf Tryz.f115 4) (s4 x0 f j)
noncomputable abbrev q5 {R:Type} (J:JT R):J5 R:=fun x0 f j=>J (placeOf Tryz.f115 5) (s5 x0 f j)
noncomputable abbrev AO {R:Type} (J:JT R):ui R:=fun x0 f j m=>J (placeOf Tryz.f115 11) (EI x0 f j m)
theorem k4 (J:JT R) (κ : KT R) (x0 f j:_):S R c1 c2 c3 c4 κ J 4 (s4 x0 f j)=t4 c2 c3 (q5 J) (AO J) (K0 κ) x0 f j:=by kernel_rfl
theorem k5 (J:JT R) (κ : KT R) (x0 f j:_):S R c1 c2 c3 c4 κ J 5 (s5 x0 f j)=t5 (q4 J) x0 f j:=by kernel_rfl
theorem Gs (J:JT R) (κ : KT R) (x0 f j m:_):S R c1 c2 c3 c4 κ J 11 (EI x0 f j m)=t11 c2 c3 c4 (q5 J) x0 f j m:=by kernel_rfl
theorem k (κ : KT R) (k:Nat) (a0:_):cr (C R c1 c2 c3 c4) Tryz.f115 10000 k [.str a0] κ = cI.e c1 c2 c3 c4 a0 (q4 (G R c1 c2 c3 c4 κ k)) (q5 (G R c1 c2 c3 c4 κ k)) (AO (G R c1 c2 c3 c4 κ k)) (K0 κ):=by kernel_rfl
theorem C3 (κ : KT R):∀ (f:Nat),(q4 (G R c1 c2 c3 c4 κ f)=L4 c1 c2 c3 c4 (K0 κ) f)/\(q5 (G R c1 c2 c3 c4 κ f)=L5 c1 c2 c3 c4 (K0 κ) f)/\(AO (G R c1 c2 c3 c4 κ f)=sN c1 c2 c3 c4 (K0 κ) f)
 | 0=>⟨rfl,rfl,rfl⟩
 | f+1=>by
  obtain ⟨m,j,u⟩:=C3 κ f
  refine ⟨?_,?_,?_⟩
  ·funext x0 z A
   show S R c1 c2 c3 c4 κ (G R c1 c2 c3 c4 κ f) 4 _=_
   rw [k4,j,u]
   rfl
  ·funext x0 z A
   show S R c1 c2 c3 c4 κ (G R c1 c2 c3 c4 κ f) 5 _=_
   rw [k5,m]
   rfl
  ·funext x0 z A M
   show S R c1 c2 c3 c4 κ (G R c1 c2 c3 c4 κ f) 11 _=_
   rw [Gs,j]
   rfl
theorem g4 (κ : KT R) (f:Nat):q4 (G R c1 c2 c3 c4 κ f)=L4 c1 c2 c3 c4 (K0 κ) f:=(C3 R c1 c2 c3 c4 κ f).1
theorem g5 (κ : KT R) (f:Nat):q5 (G R c1 c2 c3 c4 κ f)=L5 c1 c2 c3 c4 (K0 κ) f:=(C3 R c1 c2 c3 c4 κ f).2.1
theorem g11 (κ : KT R) (f:Nat):AO (G R c1 c2 c3 c4 κ f)=sN c1 c2 c3 c4 (K0 κ) f:=(C3 R c1 c2 c3 c4 κ f).2.2
end
theorem ae {R:Type} (tab:bZ) (f:aq tab) (g:Nat):bM (R:=R) Tryz.prog (af bm) tab g ((C R bD aP cW bT).call g):=by
 refine aF fun xs κ => ?_
 show aa _ _ _ g xs κ (Γ R bD aP cW bT g xs κ)
 unfold Γ
 split
 ·split
  ·exact cW.aG tab f _ κ
  ·exact aa.none
 ·split
  ·exact bD.aG tab f _ κ
  ·exact aa.none
 ·split
  ·exact aP.aG tab f _ κ
  ·exact aa.none
 ·split
  ·exact bT.aG tab f _ κ
  ·exact aa.none
 ·exact aa.none
theorem aG {R:Type} (tab:bZ) (f:aq tab) (a0:_) (κ : KT R):aa Tryz.prog (af bm) tab 115 [.str a0] κ (cI a0 (K0 κ)):=ah (C:=C R bD aP cW bT) (fn:=Tryz.f115) cz (ae tab f) (by kernel_rfl) (by kernel_rfl) (by rw [k];rw [g4 R bD aP cW bT κ ag,g5 R bD aP cW bT κ ag,g11 R bD aP cW bT κ ag];rfl)
end cI
namespace da
abbrev K0 {R:Type} (κ : KT R):BA->Option R:=fun f=>κ [.str f]
section
variable (R:Type) (c1:aP.F R)
def Γ (g:Nat) (xs:List SV) (κ : KT R):Option R :=
 match g with
 | 154=>(match xs with
  | [.int .u8 a0]=>c1 a0 (aP.K0 κ)
  | _=>none)
 | _=>none
def h (n:Nat):Option (List (Nat × List (Nat × Nat))) :=
 match n with
 | 1=>some [(0,[(0,0)])]
 | 3=>some [(0,[(0,0)])]
 | _=>none
def C:Cfg R:=⟨af bm,Γ R c1,fun _=>false,h,0,fun _=>false⟩
noncomputable def S:=S0 (C R c1) Tryz.f126 0
noncomputable def G:=G0 (C R c1) Tryz.f126 0
def s1:=fun x0=>(⟨er 30 [(0,.str x0)],[],eo⟩:St)
def s3:=fun x0=>(⟨er 30 [(0,.str x0)],[],eo⟩:St)
noncomputable abbrev q1 {R:Type} (J:JT R):BA->Option R:=fun x0=>J (placeOf Tryz.f126 1) (s1 x0)
noncomputable abbrev q3 {R:Type} (J:JT R):BA->Option R:=fun x0=>J (placeOf Tryz.f126 3) (s3 x0)
theorem k1 (J:JT R) (κ : KT R) (x0:_):S R c1 κ J 1 (s1 x0)=t1 c1 (q1 J) (q3 J) x0:=by kernel_rfl
theorem k3 (J:JT R) (κ : KT R) (x0:_):S R c1 κ J 3 (s3 x0)=t3 c1 (q3 J) (K0 κ) x0:=by kernel_rfl
theorem k (κ : KT R) (k:Nat) (a0:_):cr (C R c1) Tryz.f126 10000 k [.str a0] κ = da.e c1 a0 (q1 (G R c1 κ k)) (q3 (G R c1 κ k)) (K0 κ):=by kernel_rfl
theorem g3 (κ : KT R):∀ (f:Nat),q3 (G R c1 κ f)=L3 c1 (K0 κ) f
 | 0=>rfl
 | f+1=>by
  funext x0
  show S R c1 κ (G R c1 κ f) 3 _=_
  rw [k3,g3 κ f]
  rfl
theorem g1 (κ : KT R):∀ (f:Nat),q1 (G R c1 κ f)=L1 c1 (K0 κ) f
 | 0=>rfl
 | f+1=>by
  funext x0
  show S R c1 κ (G R c1 κ f) 1 _=_
  rw [k1,g1 κ f,g3 R c1 κ f]
  rfl
end
theorem ae {R:Type} (tab:bZ) (f:aq tab) (g:Nat):bM (R:=R) Tryz.prog (af bm) tab g ((C R aP).call g):=by
 refine aF fun xs κ => ?_
 show aa _ _ _ g xs κ (Γ R aP g xs κ)
 unfold Γ
 split
 ·split
  ·exact aP.aG tab f _ κ
  ·exact aa.none
 ·exact aa.none
theorem aG {R:Type} (tab:bZ) (f:aq tab) (a0:_) (κ : KT R):aa Tryz.prog (af bm) tab 126 [.str a0] κ (da a0 (K0 κ)):=ah (C:=C R aP) (fn:=Tryz.f126) cz (ae tab f) (by kernel_rfl) (by kernel_rfl) (by rw [k];rw [g1 R aP κ ag,g3 R aP κ ag];rfl)
end da
namespace ch
abbrev K0 {R:Type} (κ : KT R):LA->Option R:=fun f=>κ [.fr 168 f true]
section
variable (R:Type) (c1:cI.F R) (c2:da.F R)
def Γ (g:Nat) (xs:List SV) (κ : KT R):Option R :=
 match g with
 | 115=>(match xs with
  | [.str a0]=>c1 a0 (cI.K0 κ)
  | _=>none)
 | 126=>(match xs with
  | [.str a0]=>c2 a0 (da.K0 κ)
  | _=>none)
 | _=>none
def h (n:Nat):Option (List (Nat × List (Nat × Nat))) :=
 match n with
 | 4=>some [(3,[(0,170)]),(4,[(0,0)]),(5,[(0,0)])]
 | _=>none
def C:Cfg R:=⟨af bm,Γ R c1 c2,fun _=>false,h,0,fun _=>false⟩
noncomputable def S:=S0 (C R c1 c2) Tryz.f83 0
noncomputable def G:=G0 (C R c1 c2) Tryz.f83 0
def s4:=fun x0 f j=>(⟨er 39 [(3,.own 256),(4,.own 320),(5,.int .i64 x0)],[(256,.row 168 f true),(320,.row 168 j true)],eo⟩:St)
noncomputable abbrev q4 {R:Type} (J:JT R):J4 R:=fun x0 f j=>J (placeOf Tryz.f83 4) (s4 x0 f j)
theorem k4 (J:JT R) (κ : KT R) (x0 f j:_):S R c1 c2 κ J 4 (s4 x0 f j)=t4 c2 (q4 J) (K0 κ) x0 f j:=by kernel_rfl
theorem k (κ : KT R) (k:Nat) (a0:_):cr (C R c1 c2) Tryz.f83 10000 k [.str a0] κ = ch.e c1 c2 a0 (q4 (G R c1 c2 κ k)) (K0 κ):=by kernel_rfl
theorem g4 (κ : KT R):∀ (f:Nat),q4 (G R c1 c2 κ f)=L4 c1 c2 (K0 κ) f
 | 0=>rfl
 | f+1=>by
  funext x0 j m
  show S R c1 c2 κ (G R c1 c2 κ f) 4 _=_
  rw [k4,g4 κ f]
  rfl
end
theorem ae {R:Type} (tab:bZ) (f:aq tab) (g:Nat):bM (R:=R) Tryz.prog (af bm) tab g ((C R cI da).call g):=by
 refine aF fun xs κ => ?_
 show aa _ _ _ g xs κ (Γ R cI da g xs κ)
 unfold Γ
 split
 ·split
  ·exact cI.aG tab f _ κ
  ·exact aa.none
 ·split
  ·exact da.aG tab f _ κ
  ·exact aa.none
 ·exact aa.none
theorem aG {R:Type} (tab:bZ) (f:aq tab) (a0:_) (κ : KT R):aa Tryz.prog (af bm) tab 83 [.str a0] κ (ch a0 (K0 κ)):=ah (C:=C R cI da) (fn:=Tryz.f83) cz (ae tab f) (by kernel_rfl) (by kernel_rfl) (by rw [k];rw [g4 R cI da κ ag];rfl)
end ch
namespace du
abbrev K0 {R:Type} (κ : KT R):BA->Option R:=fun f=>κ [.str f]
section
variable (R:Type)
def Γ (g:Nat) (xs:List SV) (κ : KT R):Option R :=
 match g with
 | _=>none
def h (n:Nat):Option (List (Nat × List (Nat × Nat))) :=
 match n with
 | 3=>some [(0,[(0,0)]),(3,[(0,7)]),(4,[(0,0)])]
 | _=>none
def C:Cfg R:=⟨af bm,Γ R,fun _=>false,h,0,fun _=>false⟩
noncomputable def S:=S0 (C R) Tryz.f156 0
noncomputable def G:=G0 (C R) Tryz.f156 0
def s3:=fun x0 f j=>(⟨er 29 [(0,.str x0),(3,.own 256),(4,.int .i64 f)],[(256,.row 5 j true)],eo⟩:St)
noncomputable abbrev q3 {R:Type} (J:JT R):J3 R:=fun x0 f j=>J (placeOf Tryz.f156 3) (s3 x0 f j)
theorem k3 (J:JT R) (κ : KT R) (x0 f j:_):S R κ J 3 (s3 x0 f j)=t3 (q3 J) (K0 κ) x0 f j:=by kernel_rfl
theorem k (κ : KT R) (k:Nat) (a0:_):cr (C R) Tryz.f156 10000 k [.str a0] κ = du.e a0 (q3 (G R κ k)) (K0 κ):=by kernel_rfl
theorem g3 (κ : KT R):∀ (f:Nat),q3 (G R κ f)=L3 (K0 κ) f
 | 0=>rfl
 | f+1=>by
  funext x0 j m
  show S R κ (G R κ f) 3 _=_
  rw [k3,g3 κ f]
  rfl
end
theorem ae {R:Type} (tab:bZ) (f:aq tab) (g:Nat):bM (R:=R) Tryz.prog (af bm) tab g ((C R).call g):=by
 refine aF fun xs κ => ?_
 show aa _ _ _ g xs κ (Γ R g xs κ)
 unfold Γ
 split
 ·exact aa.none
theorem aG {R:Type} (tab:bZ) (f:aq tab) (a0:_) (κ : KT R):aa Tryz.prog (af bm) tab 156 [.str a0] κ (du a0 (K0 κ)):=ah (C:=C R) (fn:=Tryz.f156) cz (ae tab f) (by kernel_rfl) (by kernel_rfl) (by rw [k];rw [g3 R κ ag];rfl)
end du
namespace dE
abbrev K0 {R:Type} (κ : KT R):Bool->Option R:=fun f=>κ [.bool f]
section
variable (R:Type) (c1:du.F R)
def Γ (g:Nat) (xs:List SV) (κ : KT R):Option R :=
 match g with
 | 156=>(match xs with
  | [.str a0]=>c1 a0 (du.K0 κ)
  | _=>none)
 | _=>none
def h (n:Nat):Option (List (Nat × List (Nat × Nat))) :=
 match n with
 | _=>none
def C:Cfg R:=⟨af bm,Γ R c1,fun _=>false,h,0,fun _=>false⟩
theorem k (κ : KT R) (k:Nat) (a0 a1:_):cr (C R c1) Tryz.f116 10000 k [.str a0,.str a1] κ = dE.e c1 a0 a1 (K0 κ):=by kernel_rfl
end
theorem ae {R:Type} (tab:bZ) (f:aq tab) (g:Nat):bM (R:=R) Tryz.prog (af bm) tab g ((C R du).call g):=by
 refine aF fun xs κ => ?_
 show aa _ _ _ g xs κ (Γ R du g xs κ)
 unfold Γ
 split
 ·split
  ·exact du.aG tab f _ κ
  ·exact aa.none
 ·exact aa.none
theorem aG {R:Type} (tab:bZ) (f:aq tab) (a0 a1:_) (κ : KT R):aa Tryz.prog (af bm) tab 116 [.str a0,.str a1] κ (dE a0 a1 (K0 κ)):=ah (C:=C R du) (fn:=Tryz.f116) cz (ae tab f) (by kernel_rfl) (by kernel_rfl) (by rw [k];rfl)
end dE
namespace dw
abbrev K0 {R:Type} (κ : KT R):Bool->BA->Option R:=fun f j=>κ [.agg [.bool f,.str j]]
section
variable (R:Type) (c1:dE.F R)
def Γ (g:Nat) (xs:List SV) (κ : KT R):Option R :=
 match g with
 | 116=>(match xs with
  | [.str a0,.str a1]=>c1 a0 a1 (dE.K0 κ)
  | _=>none)
 | _=>none
def h (n:Nat):Option (List (Nat × List (Nat × Nat))) :=
 match n with
 | 2=>some [(0,[(0,0)]),(1,[(0,0)]),(4,[(0,0)]),(5,[(0,0)])]
 | _=>none
def C:Cfg R:=⟨af bm,Γ R c1,fun _=>false,h,0,fun _=>false⟩
noncomputable def S:=S0 (C R c1) Tryz.f99 0
noncomputable def G:=G0 (C R c1) Tryz.f99 0
def s2:=fun x0 f j m u=>(⟨er 26 [(0,.ro 168 x0 false),(1,.str f),(4,.ptr 383 0),(5,.int .i64 j)],[(383,.var 26 [.bool m,.str u])],eo⟩:St)
noncomputable abbrev q2 {R:Type} (J:JT R):J2 R:=fun x0 f j m u=>J (placeOf Tryz.f99 2) (s2 x0 f j m u)
theorem k2 (J:JT R) (κ : KT R) (x0 f j m u:_):S R c1 κ J 2 (s2 x0 f j m u)=t2 c1 (q2 J) (K0 κ) x0 f j m u:=by kernel_rfl
theorem k (κ : KT R) (k:Nat) (a0 a1:_):cr (C R c1) Tryz.f99 10000 k [.ro 168 a0 false,.str a1] κ = dw.e c1 a0 a1 (q2 (G R c1 κ k)) (K0 κ):=by kernel_rfl
theorem g2 (κ : KT R):∀ (f:Nat),q2 (G R c1 κ f)=L2 c1 (K0 κ) f
 | 0=>rfl
 | f+1=>by
  funext x0 j m u z
  show S R c1 κ (G R c1 κ f) 2 _=_
  rw [k2,g2 κ f]
  rfl
end
theorem ae {R:Type} (tab:bZ) (f:aq tab) (g:Nat):bM (R:=R) Tryz.prog (af bm) tab g ((C R dE).call g):=by
 refine aF fun xs κ => ?_
 show aa _ _ _ g xs κ (Γ R dE g xs κ)
 unfold Γ
 split
 ·split
  ·exact dE.aG tab f _ _ κ
  ·exact aa.none
 ·exact aa.none
theorem aG {R:Type} (tab:bZ) (f:aq tab) (a0 a1:_) (κ : KT R):aa Tryz.prog (af bm) tab 99 [.ro 168 a0 false,.str a1] κ (dw a0 a1 (K0 κ)):=ah (C:=C R dE) (fn:=Tryz.f99) cz (ae tab f) (by kernel_rfl) (by kernel_rfl) (by rw [k];rw [g2 R dE κ ag];rfl)
end dw
namespace aK
abbrev K0 {R:Type} (κ : KT R):Int->Option R:=fun f=>κ [.int .i64 f]
section
variable (R:Type)
def Γ (g:Nat) (xs:List SV) (κ : KT R):Option R :=
 match g with
 | _=>none
def h (n:Nat):Option (List (Nat × List (Nat × Nat))) :=
 match n with
 | 1=>some [(0,[(0,0)]),(1,[(0,0)])]
 | 7=>some [(0,[(0,0)]),(1,[(0,0)]),(5,[(0,0)])]
 | _=>none
def C:Cfg R:=⟨af bm,Γ R,fun _=>false,h,0,fun _=>false⟩
noncomputable def S:=S0 (C R) Tryz.f143 0
noncomputable def G:=G0 (C R) Tryz.f143 0
def s1:=fun x0 f=>(⟨er 58 [(0,.str x0),(1,.int .i64 f)],[],eo⟩:St)
def s7:=fun x0 f j=>(⟨er 58 [(0,.str x0),(1,.int .i64 f),(5,.int .i64 j)],[],eo⟩:St)
noncomputable abbrev q1 {R:Type} (J:JT R):BA->Int->Option R:=fun x0 f=>J (placeOf Tryz.f143 1) (s1 x0 f)
noncomputable abbrev q7 {R:Type} (J:JT R):J7 R:=fun x0 f j=>J (placeOf Tryz.f143 7) (s7 x0 f j)
theorem k1 (J:JT R) (κ : KT R) (x0 f:_):S R κ J 1 (s1 x0 f)=t1 (q1 J) (q7 J) (K0 κ) x0 f:=by kernel_rfl
theorem k7 (J:JT R) (κ : KT R) (x0 f j:_):S R κ J 7 (s7 x0 f j)=t7 (q1 J) (q7 J) x0 f j:=by kernel_rfl
theorem k (κ : KT R) (k:Nat) (a0 a1:_):cr (C R) Tryz.f143 10000 k [.str a0,.int .i64 a1] κ = aK.e a0 a1 (q1 (G R κ k)) (q7 (G R κ k)) (K0 κ):=by kernel_rfl
theorem Hn (κ : KT R):∀ (f:Nat),(q1 (G R κ f)=L1 (K0 κ) f)/\(q7 (G R κ f)=L7 (K0 κ) f)
 | 0=>⟨rfl,rfl⟩
 | f+1=>by
  obtain ⟨j,m⟩:=Hn κ f
  refine ⟨?_,?_⟩
  ·funext x0 u
   show S R κ (G R κ f) 1 _=_
   rw [k1,j,m]
   rfl
  ·funext x0 u z
   show S R κ (G R κ f) 7 _=_
   rw [k7,j,m]
   rfl
theorem g1 (κ : KT R) (f:Nat):q1 (G R κ f)=L1 (K0 κ) f:=(Hn R κ f).1
theorem g7 (κ : KT R) (f:Nat):q7 (G R κ f)=L7 (K0 κ) f:=(Hn R κ f).2
end
theorem ae {R:Type} (tab:bZ) (f:aq tab) (g:Nat):bM (R:=R) Tryz.prog (af bm) tab g ((C R).call g):=by
 refine aF fun xs κ => ?_
 show aa _ _ _ g xs κ (Γ R g xs κ)
 unfold Γ
 split
 ·exact aa.none
theorem aG {R:Type} (tab:bZ) (f:aq tab) (a0 a1:_) (κ : KT R):aa Tryz.prog (af bm) tab 143 [.str a0,.int .i64 a1] κ (aK a0 a1 (K0 κ)):=ah (C:=C R) (fn:=Tryz.f143) cz (ae tab f) (by kernel_rfl) (by kernel_rfl) (by rw [k];rw [g1 R κ ag,g7 R κ ag];rfl)
end aK
namespace bE
abbrev K0 {R:Type} (κ : KT R):Bool->Option R:=fun f=>κ [.bool f]
section
variable (R:Type)
def Γ (g:Nat) (xs:List SV) (κ : KT R):Option R :=
 match g with
 | _=>none
def h (n:Nat):Option (List (Nat × List (Nat × Nat))) :=
 match n with
 | 5=>some [(0,[(0,0)]),(3,[(0,0)]),(4,[(0,0)])]
 | _=>none
def C:Cfg R:=⟨af bm,Γ R,fun _=>false,h,0,fun _=>false⟩
noncomputable def S:=S0 (C R) Tryz.f183 0
noncomputable def G:=G0 (C R) Tryz.f183 0
def s5:=fun x0 f j=>(⟨er 22 [(0,.int .u8 x0),(3,.str f),(4,.int .i64 j)],[],eo⟩:St)
noncomputable abbrev q5 {R:Type} (J:JT R):J5 R:=fun x0 f j=>J (placeOf Tryz.f183 5) (s5 x0 f j)
theorem k5 (J:JT R) (κ : KT R) (x0 f j:_):S R κ J 5 (s5 x0 f j)=t5 (q5 J) (K0 κ) x0 f j:=by kernel_rfl
theorem k (κ : KT R) (k:Nat) (a0:_):cr (C R) Tryz.f183 10000 k [.int .u8 a0] κ = bE.e a0 (q5 (G R κ k)) (K0 κ):=by kernel_rfl
theorem g5 (κ : KT R):∀ (f:Nat),q5 (G R κ f)=L5 (K0 κ) f
 | 0=>rfl
 | f+1=>by
  funext x0 j m
  show S R κ (G R κ f) 5 _=_
  rw [k5,g5 κ f]
  rfl
end
theorem ae {R:Type} (tab:bZ) (f:aq tab) (g:Nat):bM (R:=R) Tryz.prog (af bm) tab g ((C R).call g):=by
 refine aF fun xs κ => ?_
 show aa _ _ _ g xs κ (Γ R g xs κ)
 unfold Γ
 split
 ·exact aa.none
theorem aG {R:Type} (tab:bZ) (f:aq tab) (a0:_) (κ : KT R):aa Tryz.prog (af bm) tab 183 [.int .u8 a0] κ (bE a0 (K0 κ)):=ah (C:=C R) (fn:=Tryz.f183) cz (ae tab f) (by kernel_rfl) (by kernel_rfl) (by rw [k];rw [g5 R κ ag];rfl)
end bE
namespace aO
abbrev K0 {R:Type} (κ : KT R):BA->Option R:=fun f=>κ [.str f]
section
variable (R:Type) (c1:bE.F R)
def Γ (g:Nat) (xs:List SV) (κ : KT R):Option R :=
 match g with
 | 183=>(match xs with
  | [.int .u8 a0]=>c1 a0 (bE.K0 κ)
  | _=>none)
 | _=>none
def h (n:Nat):Option (List (Nat × List (Nat × Nat))) :=
 match n with
 | 2=>some [(0,[(0,0)]),(1,[(0,0)]),(5,[(0,0)])]
 | _=>none
def C:Cfg R:=⟨af bm,Γ R c1,fun _=>false,h,0,fun _=>false⟩
noncomputable def S:=S0 (C R c1) Tryz.f144 0
noncomputable def G:=G0 (C R c1) Tryz.f144 0
def s2:=fun x0 f j=>(⟨er 23 [(0,.str x0),(1,.int .i64 f),(5,.int .i64 j)],[],eo⟩:St)
noncomputable abbrev q2 {R:Type} (J:JT R):J2 R:=fun x0 f j=>J (placeOf Tryz.f144 2) (s2 x0 f j)
theorem k2 (J:JT R) (κ : KT R) (x0 f j:_):S R c1 κ J 2 (s2 x0 f j)=t2 c1 (q2 J) (K0 κ) x0 f j:=by kernel_rfl
theorem k (κ : KT R) (k:Nat) (a0 a1:_):cr (C R c1) Tryz.f144 10000 k [.str a0,.int .i64 a1] κ = aO.e c1 a0 a1 (q2 (G R c1 κ k)) (K0 κ):=by kernel_rfl
theorem g2 (κ : KT R):∀ (f:Nat),q2 (G R c1 κ f)=L2 c1 (K0 κ) f
 | 0=>rfl
 | f+1=>by
  funext x0 j m
  show S R c1 κ (G R c1 κ f) 2 _=_
  rw [k2,g2 κ f]
  rfl
end
theorem ae {R:Type} (tab:bZ) (f:aq tab) (g:Nat):bM (R:=R) Tryz.prog (af bm) tab g ((C R bE).call g):=by
 refine aF fun xs κ => ?_
 show aa _ _ _ g xs κ (Γ R bE g xs κ)
 unfold Γ
 split
 ·split
  ·exact bE.aG tab f _ κ
  ·exact aa.none
 ·exact aa.none
theorem aG {R:Type} (tab:bZ) (f:aq tab) (a0 a1:_) (κ : KT R):aa Tryz.prog (af bm) tab 144 [.str a0,.int .i64 a1] κ (aO a0 a1 (K0 κ)):=ah (C:=C R bE) (fn:=Tryz.f144) cz (ae tab f) (by kernel_rfl) (by kernel_rfl) (by rw [k];rw [g2 R bE κ ag];rfl)
end aO
namespace bc
abbrev K0 {R:Type} (κ : KT R):BA->Option R:=fun f=>κ [.str f]
section
variable (R:Type)
def Γ (g:Nat) (xs:List SV) (κ : KT R):Option R :=
 match g with
 | _=>none
def h (n:Nat):Option (List (Nat × List (Nat × Nat))) :=
 match n with
 | 3=>some [(0,[(0,0)]),(3,[(0,7)]),(4,[(0,0)])]
 | _=>none
def C:Cfg R:=⟨af bm,Γ R,fun _=>false,h,0,fun _=>false⟩
noncomputable def S:=S0 (C R) Tryz.f145 0
noncomputable def G:=G0 (C R) Tryz.f145 0
def s3:=fun x0 f j=>(⟨er 29 [(0,.str x0),(3,.own 256),(4,.int .i64 f)],[(256,.row 5 j true)],eo⟩:St)
noncomputable abbrev q3 {R:Type} (J:JT R):J3 R:=fun x0 f j=>J (placeOf Tryz.f145 3) (s3 x0 f j)
theorem k3 (J:JT R) (κ : KT R) (x0 f j:_):S R κ J 3 (s3 x0 f j)=t3 (q3 J) (K0 κ) x0 f j:=by kernel_rfl
theorem k (κ : KT R) (k:Nat) (a0:_):cr (C R) Tryz.f145 10000 k [.str a0] κ = bc.e a0 (q3 (G R κ k)) (K0 κ):=by kernel_rfl
theorem g3 (κ : KT R):∀ (f:Nat),q3 (G R κ f)=L3 (K0 κ) f
 | 0=>rfl
 | f+1=>by
  funext x0 j m
  show S R κ (G R κ f) 3 _=_
  rw [k3,g3 κ f]
  rfl
end
theorem ae {R:Type} (tab:bZ) (f:aq tab) (g:Nat):bM (R:=R) Tryz.prog (af bm) tab g ((C R).call g):=by
 refine aF fun xs κ => ?_
 show aa _ _ _ g xs κ (Γ R g xs κ)
 unfold Γ
 split
 ·exact aa.none
theorem aG {R:Type} (tab:bZ) (f:aq tab) (a0:_) (κ : KT R):aa Tryz.prog (af bm) tab 145 [.str a0] κ (bc a0 (K0 κ)):=ah (C:=C R) (fn:=Tryz.f145) cz (ae tab f) (by kernel_rfl) (by kernel_rfl) (by rw [k];rw [g3 R κ ag];rfl)
end bc
namespace cL
abbrev K0 {R:Type} (κ : KT R):Q0 R:=fun f j m=>κ [.tup [.str f,.int .i64 j,.bool m]]
section
variable (R:Type) (c1:aO.F R)
def Γ (g:Nat) (xs:List SV) (κ : KT R):Option R :=
 match g with
 | 144=>(match xs with
  | [.str a0,.int .i64 a1]=>c1 a0 a1 (aO.K0 κ)
  | _=>none)
 | _=>none
def h (n:Nat):Option (List (Nat × List (Nat × Nat))) :=
 match n with
 | 8=>some [(0,[(0,0)]),(1,[(0,0)]),(8,[(0,7)]),(9,[(0,0)])]
 | _=>none
def C:Cfg R:=⟨af bm,Γ R c1,fun _=>false,h,0,fun _=>false⟩
noncomputable def S:=S0 (C R c1) Tryz.f147 0
noncomputable def G:=G0 (C R c1) Tryz.f147 0
def s8:=fun x0 f j m=>(⟨er 67 [(0,.str x0),(1,.int .i64 f),(8,.own 576),(9,.int .i64 j)],[(576,.row 5 m true)],eo⟩:St)
noncomputable abbrev q8 {R:Type} (J:JT R):J8 R:=fun x0 f j m=>J (placeOf Tryz.f147 8) (s8 x0 f j m)
theorem k8 (J:JT R) (κ : KT R) (x0 f j m:_):S R c1 κ J 8 (s8 x0 f j m)=t8 (q8 J) (K0 κ) x0 f j m:=by kernel_rfl
theorem k (κ : KT R) (k:Nat) (a0 a1:_):cr (C R c1) Tryz.f147 10000 k [.str a0,.int .i64 a1] κ = cL.e c1 a0 a1 (q8 (G R c1 κ k)) (K0 κ):=by kernel_rfl
theorem g8 (κ : KT R):∀ (f:Nat),q8 (G R c1 κ f)=L8 c1 (K0 κ) f
 | 0=>rfl
 | f+1=>by
  funext x0 j m u
  show S R c1 κ (G R c1 κ f) 8 _=_
  rw [k8,g8 κ f]
  rfl
end
theorem ae {R:Type} (tab:bZ) (f:aq tab) (g:Nat):bM (R:=R) Tryz.prog (af bm) tab g ((C R aO).call g):=by
 refine aF fun xs κ => ?_
 show aa _ _ _ g xs κ (Γ R aO g xs κ)
 unfold Γ
 split
 ·split
  ·exact aO.aG tab f _ _ κ
  ·exact aa.none
 ·exact aa.none
theorem aG {R:Type} (tab:bZ) (f:aq tab) (a0 a1:_) (κ : KT R):aa Tryz.prog (af bm) tab 147 [.str a0,.int .i64 a1] κ (cL a0 a1 (K0 κ)):=ah (C:=C R aO) (fn:=Tryz.f147) cz (ae tab f) (by kernel_rfl) (by kernel_rfl) (by rw [k];rw [g8 R aO κ ag];rfl)
end cL
namespace bj
abbrev K0 {R:Type} (κ : KT R):LA->Option R:=fun f=>κ [.fr 129 f true]
section
variable (R:Type) (c1:aK.F R) (c2:aO.F R) (c3:bc.F R) (c4:cL.F R)
def Γ (g:Nat) (xs:List SV) (κ : KT R):Option R :=
 match g with
 | 143=>(match xs with
  | [.str a0,.int .i64 a1]=>c1 a0 a1 (aK.K0 κ)
  | _=>none)
 | 144=>(match xs with
  | [.str a0,.int .i64 a1]=>c2 a0 a1 (aO.K0 κ)
  | _=>none)
 | 145=>(match xs with
  | [.str a0]=>c3 a0 (bc.K0 κ)
  | _=>none)
 | 147=>(match xs with
  | [.str a0,.int .i64 a1]=>c4 a0 a1 (cL.K0 κ)
  | _=>none)
 | _=>none
def h (n:Nat):Option (List (Nat × List (Nat × Nat))) :=
 match n with
 | 2=>some [(0,[(0,0)]),(1,[(0,0)]),(5,[(0,131)])]
 | 17=>some [(0,[(0,0)]),(1,[(0,0)]),(5,[(0,0)]),(6,[(0,0)]),(7,[(0,0)]),(10,[(0,0)]),(11,[(0,0)])]
 | _=>none
def C:Cfg R:=⟨af bm,Γ R c1 c2 c3 c4,fun _=>false,h,0,fun _=>false⟩
noncomputable def S:=S0 (C R c1 c2 c3 c4) Tryz.f102 0
noncomputable def G:=G0 (C R c1 c2 c3 c4) Tryz.f102 0
def s2:=fun x0 f j=>(⟨er 97 [(0,.str x0),(1,.int .i64 f),(5,.own 384)],[(384,.row 129 j true)],eo⟩:St)
def GU:=fun x0 f j m u z A=>(⟨er 97 [(0,.str x0),(1,.int .i64 f),(5,.own 384),(6,.str j),(7,.str m),(10,.bool u),(11,.int .i64 z)],[(384,.row 129 A true)],eo⟩:St)
noncomputable abbrev q2 {R:Type} (J:JT R):J2 R:=fun x0 f j=>J (placeOf Tryz.f102 2) (s2 x0 f j)
noncomputable abbrev C6 {R:Type} (J:JT R):xW R:=fun x0 f j m u z A=>J (placeOf Tryz.f102 17) (GU x0 f j m u z A)
theorem k2 (J:JT R) (κ : KT R) (x0 f j:_):S R c1 c2 c3 c4 κ J 2 (s2 x0 f j)=t2 c1 c2 c3 c4 (C6 J) (K0 κ) x0 f j:=by kernel_rfl
theorem Hq (J:JT R) (κ : KT R) (x0 f j m u z A:_):S R c1 c2 c3 c4 κ J 17 (GU x0 f j m u z A)=t17 (q2 J) (C6 J) x0 f j m u z A:=by kernel_rfl
theorem k (κ : KT R) (k:Nat) (a0 a1:_):cr (C R c1 c2 c3 c4) Tryz.f102 10000 k [.str a0,.int .i64 a1] κ = bj.e c1 c2 c3 c4 a0 a1 (q2 (G R c1 c2 c3 c4 κ k)) (C6 (G R c1 c2 c3 c4 κ k)) (K0 κ):=by kernel_rfl
theorem Ho (κ : KT R):∀ (f:Nat),(q2 (G R c1 c2 c3 c4 κ f)=L2 c1 c2 c3 c4 (K0 κ) f)/\(C6 (G R c1 c2 c3 c4 κ f)=zj c1 c2 c3 c4 (K0 κ) f)
 | 0=>⟨rfl,rfl⟩
 | f+1=>by
  obtain ⟨m,j⟩:=Ho κ f
  refine ⟨?_,?_⟩
  ·funext x0 u z
   show S R c1 c2 c3 c4 κ (G R c1 c2 c3 c4 κ f) 2 _=_
   rw [k2,j]
   rfl
  ·funext x0 u z A M N O
   show S R c1 c2 c3 c4 κ (G R c1 c2 c3 c4 κ f) 17 _=_
   rw [Hq,m,j]
   rfl
theorem g2 (κ : KT R) (f:Nat):q2 (G R c1 c2 c3 c4 κ f)=L2 c1 c2 c3 c4 (K0 κ) f:=(Ho R c1 c2 c3 c4 κ f).1
theorem g17 (κ : KT R) (f:Nat):C6 (G R c1 c2 c3 c4 κ f)=zj c1 c2 c3 c4 (K0 κ) f:=(Ho R c1 c2 c3 c4 κ f).2
end
theorem ae {R:Type} (tab:bZ) (f:aq tab) (g:Nat):bM (R:=R) Tryz.prog (af bm) tab g ((C R aK aO bc cL).call g):=by
 refine aF fun xs κ => ?_
 show aa _ _ _ g xs κ (Γ R aK aO bc cL g xs κ)
 unfold Γ
 split
 ·split
  ·exact aK.aG tab f _ _ κ
  ·exact aa.none
 ·split
  ·exact aO.aG tab f _ _ κ
  ·exact aa.none
 ·split
  ·exact bc.aG tab f _ κ
  ·exact aa.none
 ·split
  ·exact cL.aG tab f _ _ κ
  ·exact aa.none
 ·exact aa.none
theorem aG {R:Type} (tab:bZ) (f:aq tab) (a0 a1:_) (κ : KT R):aa Tryz.prog (af bm) tab 102 [.str a0,.int .i64 a1] κ (bj a0 a1 (K0 κ)):=ah (C:=C R aK aO bc cL) (fn:=Tryz.f102) cz (ae tab f) (by kernel_rfl) (by kernel_rfl) (by rw [k];rw [g2 R aK aO bc cL κ ag,g17 R aK aO bc cL κ ag];rfl)
end bj
namespace dj
abbrev K0 {R:Type} (κ : KT R):Q0 R:=fun f j m=>κ [.tup [.str f,.str j,.fr 129 m true]]
abbrev K1 {R:Type} (κ : KT R):BA->BA->Option R:=fun f j=>κ [.tup [.str f,.str j,.nil]]
section
variable (R:Type) (c1:aK.F R) (c2:aO.F R) (c3:bc.F R) (c4:bj.F R)
def Γ (g:Nat) (xs:List SV) (κ : KT R):Option R :=
 match g with
 | 102=>(match xs with
  | [.str a0,.int .i64 a1]=>c4 a0 a1 (bj.K0 κ)
  | _=>none)
 | 143=>(match xs with
  | [.str a0,.int .i64 a1]=>c1 a0 a1 (aK.K0 κ)
  | _=>none)
 | 144=>(match xs with
  | [.str a0,.int .i64 a1]=>c2 a0 a1 (aO.K0 κ)
  | _=>none)
 | 145=>(match xs with
  | [.str a0]=>c3 a0 (bc.K0 κ)
  | _=>none)
 | _=>none
def h (n:Nat):Option (List (Nat × List (Nat × Nat))) :=
 match n with
 | _=>none
def C:Cfg R:=⟨af bm,Γ R c1 c2 c3 c4,fun _=>false,h,0,fun _=>false⟩
theorem k (κ : KT R) (k:Nat) (a0 a1 a2:_):cr (C R c1 c2 c3 c4) Tryz.f98 10000 k [.agg [.bool a0,.str a1],.bool a2] κ = dj.e c1 c2 c3 c4 a0 a1 a2 (K0 κ) (K1 κ):=by kernel_rfl
end
theorem ae {R:Type} (tab:bZ) (f:aq tab) (g:Nat):bM (R:=R) Tryz.prog (af bm) tab g ((C R aK aO bc bj).call g):=by
 refine aF fun xs κ => ?_
 show aa _ _ _ g xs κ (Γ R aK aO bc bj g xs κ)
 unfold Γ
 split
 ·split
  ·exact bj.aG tab f _ _ κ
  ·exact aa.none
 ·split
  ·exact aK.aG tab f _ _ κ
  ·exact aa.none
 ·split
  ·exact aO.aG tab f _ _ κ
  ·exact aa.none
 ·split
  ·exact bc.aG tab f _ κ
  ·exact aa.none
 ·exact aa.none
theorem aG {R:Type} (tab:bZ) (f:aq tab) (a0 a1 a2:_) (κ : KT R):aa Tryz.prog (af bm) tab 98 [.agg [.bool a0,.str a1],.bool a2] κ (dj a0 a1 a2 (K0 κ) (K1 κ)):=ah (C:=C R aK aO bc bj) (fn:=Tryz.f98) cz (ae tab f) (by kernel_rfl) (by kernel_rfl) (by rw [k];rfl)
end dj
namespace dv
abbrev K0 {R:Type} (κ : KT R):BA->Option R:=fun f=>κ [.str f]
section
variable (R:Type)
def Γ (g:Nat) (xs:List SV) (κ : KT R):Option R :=
 match g with
 | _=>none
def h (n:Nat):Option (List (Nat × List (Nat × Nat))) :=
 match n with
 | 1=>some [(0,[(0,0)])]
 | 3=>some [(0,[(0,0)])]
 | _=>none
def C:Cfg R:=⟨af bm,Γ R,fun _=>false,h,0,fun _=>false⟩
noncomputable def S:=S0 (C R) Tryz.f146 0
noncomputable def G:=G0 (C R) Tryz.f146 0
def s1:=fun x0=>(⟨er 43 [(0,.str x0)],[],eo⟩:St)
def s3:=fun x0=>(⟨er 43 [(0,.str x0)],[],eo⟩:St)
noncomputable abbrev q1 {R:Type} (J:JT R):BA->Option R:=fun x0=>J (placeOf Tryz.f146 1) (s1 x0)
noncomputable abbrev q3 {R:Type} (J:JT R):BA->Option R:=fun x0=>J (placeOf Tryz.f146 3) (s3 x0)
theorem k1 (J:JT R) (κ : KT R) (x0:_):S R κ J 1 (s1 x0)=t1 (q1 J) (q3 J) x0:=by kernel_rfl
theorem k3 (J:JT R) (κ : KT R) (x0:_):S R κ J 3 (s3 x0)=t3 (q3 J) (K0 κ) x0:=by kernel_rfl
theorem k (κ : KT R) (k:Nat) (a0:_):cr (C R) Tryz.f146 10000 k [.str a0] κ = dv.e a0 (q1 (G R κ k)) (q3 (G R κ k)) (K0 κ):=by kernel_rfl
theorem g3 (κ : KT R):∀ (f:Nat),q3 (G R κ f)=L3 (K0 κ) f
 | 0=>rfl
 | f+1=>by
  funext x0
  show S R κ (G R κ f) 3 _=_
  rw [k3,g3 κ f]
  rfl
theorem g1 (κ : KT R):∀ (f:Nat),q1 (G R κ f)=L1 (K0 κ) f
 | 0=>rfl
 | f+1=>by
  funext x0
  show S R κ (G R κ f) 1 _=_
  rw [k1,g1 κ f,g3 R κ f]
  rfl
end
theorem ae {R:Type} (tab:bZ) (f:aq tab) (g:Nat):bM (R:=R) Tryz.prog (af bm) tab g ((C R).call g):=by
 refine aF fun xs κ => ?_
 show aa _ _ _ g xs κ (Γ R g xs κ)
 unfold Γ
 split
 ·exact aa.none
theorem aG {R:Type} (tab:bZ) (f:aq tab) (a0:_) (κ : KT R):aa Tryz.prog (af bm) tab 146 [.str a0] κ (dv a0 (K0 κ)):=ah (C:=C R) (fn:=Tryz.f146) cz (ae tab f) (by kernel_rfl) (by kernel_rfl) (by rw [k];rw [g1 R κ ag,g3 R κ ag];rfl)
end dv
namespace dp
abbrev K0 {R:Type} (κ : KT R):Bool->BA->Option R:=fun f j=>κ [.agg [.bool f,.str j]]
section
variable (R:Type) (c1:dv.F R)
def Γ (g:Nat) (xs:List SV) (κ : KT R):Option R :=
 match g with
 | 146=>(match xs with
  | [.str a0]=>c1 a0 (dv.K0 κ)
  | _=>none)
 | _=>none
def h (n:Nat):Option (List (Nat × List (Nat × Nat))) :=
 match n with
 | _=>none
def C:Cfg R:=⟨af bm,Γ R c1,fun _=>false,h,0,fun _=>false⟩
theorem k (κ : KT R) (k:Nat) (a0 a1:_):cr (C R c1) Tryz.f100 10000 k [.agg [.bool a0,.str a1]] κ = dp.e c1 a0 a1 (K0 κ):=by kernel_rfl
end
theorem ae {R:Type} (tab:bZ) (f:aq tab) (g:Nat):bM (R:=R) Tryz.prog (af bm) tab g ((C R dv).call g):=by
 refine aF fun xs κ => ?_
 show aa _ _ _ g xs κ (Γ R dv g xs κ)
 unfold Γ
 split
 ·split
  ·exact dv.aG tab f _ κ
  ·exact aa.none
 ·exact aa.none
theorem aG {R:Type} (tab:bZ) (f:aq tab) (a0 a1:_) (κ : KT R):aa Tryz.prog (af bm) tab 100 [.agg [.bool a0,.str a1]] κ (dp a0 a1 (K0 κ)):=ah (C:=C R dv) (fn:=Tryz.f100) cz (ae tab f) (by kernel_rfl) (by kernel_rfl) (by rw [k];rfl)
end dp
namespace cR
abbrev K0 {R:Type} (κ : KT R):Q0 R:=fun f j m=>κ [.tup [.agg [.bool f,.str j],.int .i64 m]]
section
variable (R:Type) (c1:aK.F R) (c2:aO.F R) (c3:bc.F R)
def Γ (g:Nat) (xs:List SV) (κ : KT R):Option R :=
 match g with
 | 143=>(match xs with
  | [.str a0,.int .i64 a1]=>c1 a0 a1 (aK.K0 κ)
  | _=>none)
 | 144=>(match xs with
  | [.str a0,.int .i64 a1]=>c2 a0 a1 (aO.K0 κ)
  | _=>none)
 | 145=>(match xs with
  | [.str a0]=>c3 a0 (bc.K0 κ)
  | _=>none)
 | _=>none
def h (n:Nat):Option (List (Nat × List (Nat × Nat))) :=
 match n with
 | _=>none
def C:Cfg R:=⟨af bm,Γ R c1 c2 c3,fun _=>false,h,0,fun _=>false⟩
theorem k (κ : KT R) (k:Nat) (a0 a1:_):cr (C R c1 c2 c3) Tryz.f101 10000 k [.agg [.bool a0,.str a1]] κ = cR.e c1 c2 c3 a0 a1 (K0 κ):=by kernel_rfl
end
theorem ae {R:Type} (tab:bZ) (f:aq tab) (g:Nat):bM (R:=R) Tryz.prog (af bm) tab g ((C R aK aO bc).call g):=by
 refine aF fun xs κ => ?_
 show aa _ _ _ g xs κ (Γ R aK aO bc g xs κ)
 unfold Γ
 split
 ·split
  ·exact aK.aG tab f _ _ κ
  ·exact aa.none
 ·split
  ·exact aO.aG tab f _ _ κ
  ·exact aa.none
 ·split
  ·exact bc.aG tab f _ κ
  ·exact aa.none
 ·exact aa.none
theorem aG {R:Type} (tab:bZ) (f:aq tab) (a0 a1:_) (κ : KT R):aa Tryz.prog (af bm) tab 101 [.agg [.bool a0,.str a1]] κ (cR a0 a1 (K0 κ)):=ah (C:=C R aK aO bc) (fn:=Tryz.f101) cz (ae tab f) (by kernel_rfl) (by kernel_rfl) (by rw [k];rfl)
end cR
namespace cA
abbrev K0 {R:Type} (κ : KT R):LA->Option R:=fun f=>κ [.fr 9 f true]
section
variable (R:Type) (c1:aK.F R) (c2:aO.F R) (c3:bc.F R)
def Γ (g:Nat) (xs:List SV) (κ : KT R):Option R :=
 match g with
 | 143=>(match xs with
  | [.str a0,.int .i64 a1]=>c1 a0 a1 (aK.K0 κ)
  | _=>none)
 | 144=>(match xs with
  | [.str a0,.int .i64 a1]=>c2 a0 a1 (aO.K0 κ)
  | _=>none)
 | 145=>(match xs with
  | [.str a0]=>c3 a0 (bc.K0 κ)
  | _=>none)
 | _=>none
def h (n:Nat):Option (List (Nat × List (Nat × Nat))) :=
 match n with
 | 3=>some [(1,[(0,0)]),(3,[(0,11)]),(4,[(0,0)])]
 | _=>none
def C:Cfg R:=⟨af bm,Γ R c1 c2 c3,fun _=>false,h,0,fun _=>false⟩
noncomputable def S:=S0 (C R c1 c2 c3) Tryz.f103 0
noncomputable def G:=G0 (C R c1 c2 c3) Tryz.f103 0
def s3:=fun x0 f j m=>(⟨er 52 [(1,.ptr 191 0),(3,.own 256),(4,.int .i64 x0)],[(191,.var 26 [.bool f,.str j]),(256,.row 9 m true)],eo⟩:St)
noncomputable abbrev q3 {R:Type} (J:JT R):J3 R:=fun x0 f j m=>J (placeOf Tryz.f103 3) (s3 x0 f j m)
theorem k3 (J:JT R) (κ : KT R) (x0 f j m:_):S R c1 c2 c3 κ J 3 (s3 x0 f j m)=t3 c1 c2 c3 (q3 J) (K0 κ) x0 f j m:=by kernel_rfl
theorem k (κ : KT R) (k:Nat) (a0 a1:_):cr (C R c1 c2 c3) Tryz.f103 10000 k [.agg [.bool a0,.str a1]] κ = cA.e c1 c2 c3 a0 a1 (q3 (G R c1 c2 c3 κ k)) (K0 κ):=by kernel_rfl
theorem g3 (κ : KT R):∀ (f:Nat),q3 (G R c1 c2 c3 κ f)=L3 c1 c2 c3 (K0 κ) f
 | 0=>rfl
 | f+1=>by
  funext x0 j m u
  show S R c1 c2 c3 κ (G R c1 c2 c3 κ f) 3 _=_
  rw [k3,g3 κ f]
  rfl
end
theorem ae {R:Type} (tab:bZ) (f:aq tab) (g:Nat):bM (R:=R) Tryz.prog (af bm) tab g ((C R aK aO bc).call g):=by
 refine aF fun xs κ => ?_
 show aa _ _ _ g xs κ (Γ R aK aO bc g xs κ)
 unfold Γ
 split
 ·split
  ·exact aK.aG tab f _ _ κ
  ·exact aa.none
 ·split
  ·exact aO.aG tab f _ _ κ
  ·exact aa.none
 ·split
  ·exact bc.aG tab f _ κ
  ·exact aa.none
 ·exact aa.none
theorem aG {R:Type} (tab:bZ) (f:aq tab) (a0 a1:_) (κ : KT R):aa Tryz.prog (af bm) tab 103 [.agg [.bool a0,.str a1]] κ (cA a0 a1 (K0 κ)):=ah (C:=C R aK aO bc) (fn:=Tryz.f103) cz (ae tab f) (by kernel_rfl) (by kernel_rfl) (by rw [k];rw [g3 R aK aO bc κ ag];rfl)
end cA
namespace aY
abbrev K0 {R:Type} (κ : KT R):Q0 R:=fun W X Y r3 r4 r5 r6 r7 r8 r9 f j m u z A M N O U V=>κ [.agg [.str W,.str X,.str Y,.ro 129 r3 true,.bool r4,.str r5,.bool r6,.str r7,.bool r8,.str r9,.bool f,.str j,.ro 129 m true,.ro 9 u true,.bool z,.str A,.int .i64 M,.int .i64 N,.int .i64 O,.int .i64 U,.int .i64 V,.nil]]
section
variable (R:Type) (c1:cG.F R) (c2:ch.F R) (c3:dw.F R) (c4:dj.F R) (c5:dp.F R) (c6:cR.F R) (c7:bj.F R) (c8:cA.F R)
def Γ (g:Nat) (xs:List SV) (κ : KT R):Option R :=
 match g with
 | 83=>(match xs with
  | [.str a0]=>c2 a0 (ch.K0 κ)
  | _=>none)
 | 97=>(match xs with
  | [.str a0]=>c1 a0 (cG.K0 κ)
  | _=>none)
 | 98=>(match xs with
  | [.agg [.bool a0,.str a1],.bool a2]=>c4 a0 a1 a2 (dj.K0 κ) (dj.K1 κ)
  | _=>none)
 | 99=>(match xs with
  | [.ro 168 a0 false,.str a1]=>c3 a0 a1 (dw.K0 κ)
  | _=>none)
 | 100=>(match xs with
  | [.agg [.bool a0,.str a1]]=>c5 a0 a1 (dp.K0 κ)
  | _=>none)
 | 101=>(match xs with
  | [.agg [.bool a0,.str a1]]=>c6 a0 a1 (cR.K0 κ)
  | _=>none)
 | 102=>(match xs with
  | [.str a0,.int .i64 a1]=>c7 a0 a1 (bj.K0 κ)
  | _=>none)
 | 103=>(match xs with
  | [.agg [.bool a0,.str a1]]=>c8 a0 a1 (cA.K0 κ)
  | _=>none)
 | _=>none
def h (n:Nat):Option (List (Nat × List (Nat × Nat))) :=
 match n with
 | 6=>some [(8,[(0,0)]),(11,[(0,0)]),(13,[(3,131)])]
 | 16=>some [(8,[(0,0)]),(13,[(3,131),(3,1),(12,131),(12,1),(13,11),(13,1)])]
 | _=>none
def C:Cfg R:=⟨af bm,Γ R c1 c2 c3 c4 c5 c6 c7 c8,fun _=>false,h,0,fun _=>false⟩
noncomputable def S:=S0 (C R c1 c2 c3 c4 c5 c6 c7 c8) Tryz.f51 0
noncomputable def G:=G0 (C R c1 c2 c3 c4 c5 c6 c7 c8) Tryz.f51 0
def s6:=fun x0 x1 x2 x3 x4 x5 x6 x7 x8 x9 f j m u z A M N O U V W X Y ad ae ap ar ax a1 a6 a7 a8 bb be bk bs bx=>(⟨er 95 [(8,.ptr 639 0),(11,.own 768),(13,.ptr 959 0)],[(639,.var 32 [.str x0,.str x1,.str x2,.nil,.bool x3,.str x4,.bool x5,.str x6,.bool x7,.str x8,.bool x9,.str f,.nil,.nil,.bool j,.str m,.int .i64 u,.int .i64 z,.int .i64 A,.int .i64 M,.int .i64 N,.nil]),(768,.row 168 O true),(959,.var 32 [.str U,.str V,.str W,.own 899,.bool X,.str Y,.bool ad,.str ae,.bool ap,.str ar,.bool ax,.str a1,.nil,.nil,.bool a6,.str a7,.int .i64 a8,.int .i64 bb,.int .i64 be,.int .i64 bk,.int .i64 bs,.nil]),(899,.row 129 bx true)],eo⟩:St)
def H0:=fun x0 x1 x2 x3 x4 x5 x6 x7 x8 x9 f j m u z A M N O U V W X Y ad ae ap ar ax a1 a6 a7 a8 bb be bk bs bx bP=>(⟨er 95 [(8,.ptr 639 0),(13,.ptr 959 0)],[(639,.var 32 [.str x0,.str x1,.str x2,.nil,.bool x3,.str x4,.bool x5,.str x6,.bool x7,.str x8,.bool x9,.str f,.nil,.nil,.bool j,.str m,.int .i64 u,.int .i64 z,.int .i64 A,.int .i64 M,.int .i64 N,.nil]),(959,.var 32 [.str O,.str U,.str V,.ro 129 W true,.bool X,.str Y,.bool ad,.str ae,.bool ap,.str ar,.bool ax,.str a1,.ro 129 a6 true,.ro 9 a7 true,.bool a8,.str bb,.int .i64 be,.int .i64 bk,.int .i64 bs,.int .i64 bx,.int .i64 bP,.nil])],eo⟩:St)
noncomputable abbrev q6 {R:Type} (J:JT R):J6 R:=fun x0 x1 x2 x3 x4 x5 x6 x7 x8 x9 f j m u z A M N O U V W X Y ad ae ap ar ax a1 a6 a7 a8 bb be bk bs bx=>J (placeOf Tryz.f51 6) (s6 x0 x1 x2 x3 x4 x5 x6 x7 x8 x9 f j m u z A M N O U V W X Y ad ae ap ar ax a1 a6 a7 a8 bb be bk bs bx)
noncomputable abbrev HF {R:Type} (J:JT R):Gc R:=fun x0 x1 x2 x3 x4 x5 x6 x7 x8 x9 f j m u z A M N O U V W X Y ad ae ap ar ax a1 a6 a7 a8 bb be bk bs bx bP=>J (placeOf Tryz.f51 16) (H0 x0 x1 x2 x3 x4 x5 x6 x7 x8 x9 f j m u z A M N O U V W X Y ad ae ap ar ax a1 a6 a7 a8 bb be bk bs bx bP)
theorem k6 (J:JT R) (κ : KT R) (x0 x1 x2 x3 x4 x5 x6 x7 x8 x9 f j m u z A M N O U V W X Y ad ae ap ar ax a1 a6 a7 a8 bb be bk bs bx:_):S R c1 c2 c3 c4 c5 c6 c7 c8 κ J 6 (s6 x0 x1 x2 x3 x4 x5 x6 x7 x8 x9 f j m u z A M N O U V W X Y ad ae ap ar ax a1 a6 a7 a8 bb be bk bs bx)=t6 c3 c5 c6 c7 c8 (HF J) x0 x1 x2 x3 x4 x5 x6 x7 x8 x9 f j m u z A M N O U V W X Y ad ae ap ar ax a1 a6 a7 a8 bb be bk bs bx:=by kernel_rfl
theorem Ib (J:JT R) (κ : KT R) (x0 x1 x2 x3 x4 x5 x6 x7 x8 x9 f j m u z A M N O U V W X Y ad ae ap ar ax a1 a6 a7 a8 bb be bk bs bx bP:_):S R c1 c2 c3 c4 c5 c6 c7 c8 κ J 16 (H0 x0 x1 x2 x3 x4 x5 x6 x7 x8 x9 f j m u z A M N O U V W X Y ad ae ap ar ax a1 a6 a7 a8 bb be bk bs bx bP)=t16 (K0 κ) x0 x1 x2 x3 x4 x5 x6 x7 x8 x9 f j m u z A M N O U V W X Y ad ae ap ar ax a1 a6 a7 a8 bb be bk bs bx bP:=by kernel_rfl
theorem k (κ : KT R) (k:Nat) (a0 a1 a2 a3 a4:_):cr (C R c1 c2 c3 c4 c5 c6 c7 c8) Tryz.f51 10000 k [.str a0,.agg [.int .i64 a1,.int .i64 a2],.str a3,.bool a4] κ = aY.e c1 c2 c3 c4 c5 c6 c7 c8 a0 a1 a2 a3 a4 (q6 (G R c1 c2 c3 c4 c5 c6 c7 c8 κ k)) (HF (G R c1 c2 c3 c4 c5 c6 c7 c8 κ k)) (K0 κ):=by kernel_rfl
theorem g16 (κ : KT R):∀ (f:Nat),HF (G R c1 c2 c3 c4 c5 c6 c7 c8 κ f)=Eg c1 c2 c3 c4 c5 c6 c7 c8 (K0 κ) f
 | 0=>rfl
 | f+1=>by
  funext x0 x1 x2 x3 x4 x5 x6 x7 x8 x9 j m u z A M N O U V W X Y ad ae ap ar ax a1 a6 a7 a8 bb be bk bs bx bP bS
  show S R c1 c2 c3 c4 c5 c6 c7 c8 κ (G R c1 c2 c3 c4 c5 c6 c7 c8 κ f) 16 _=_
  rw [Ib]
  rfl
theorem g6 (κ : KT R):∀ (f:Nat),q6 (G R c1 c2 c3 c4 c5 c6 c7 c8 κ f)=L6 c1 c2 c3 c4 c5 c6 c7 c8 (K0 κ) f
 | 0=>rfl
 | f+1=>by
  funext x0 x1 x2 x3 x4 x5 x6 x7 x8 x9 j m u z A M N O U V W X Y ad ae ap ar ax a1 a6 a7 a8 bb be bk bs bx bP
  show S R c1 c2 c3 c4 c5 c6 c7 c8 κ (G R c1 c2 c3 c4 c5 c6 c7 c8 κ f) 6 _=_
  rw [k6,g16 R c1 c2 c3 c4 c5 c6 c7 c8 κ f]
  rfl
end
theorem ae {R:Type} (tab:bZ) (f:aq tab) (g:Nat):bM (R:=R) Tryz.prog (af bm) tab g ((C R cG ch dw dj dp cR bj cA).call g):=by
 refine aF fun xs κ => ?_
 show aa _ _ _ g xs κ (Γ R cG ch dw dj dp cR bj cA g xs κ)
 unfold Γ
 split
 ·split
  ·exact ch.aG tab f _ κ
  ·exact aa.none
 ·split
  ·exact cG.aG tab f _ κ
  ·exact aa.none
 ·split
  ·exact dj.aG tab f _ _ _ κ
  ·exact aa.none
 ·split
  ·exact dw.aG tab f _ _ κ
  ·exact aa.none
 ·split
  ·exact dp.aG tab f _ _ κ
  ·exact aa.none
 ·split
  ·exact cR.aG tab f _ _ κ
  ·exact aa.none
 ·split
  ·exact bj.aG tab f _ _ κ
  ·exact aa.none
 ·split
  ·exact cA.aG tab f _ _ κ
  ·exact aa.none
 ·exact aa.none
theorem aG {R:Type} (tab:bZ) (f:aq tab) (a0 a1 a2 a3 a4:_) (κ : KT R):aa Tryz.prog (af bm) tab 51 [.str a0,.agg [.int .i64 a1,.int .i64 a2],.str a3,.bool a4] κ (aY a0 a1 a2 a3 a4 (K0 κ)):=ah (C:=C R cG ch dw dj dp cR bj cA) (fn:=Tryz.f51) cz (ae tab f) (by kernel_rfl) (by kernel_rfl) (by rw [k];rw [g6 R cG ch dw dj dp cR bj cA κ ag,g16 R cG ch dw dj dp cR bj cA κ ag];rfl)
end aY
namespace bH
abbrev K0 {R:Type} (κ : KT R):Int->Option R:=fun f=>κ [.int .i64 f]
section
variable (R:Type)
def Γ (g:Nat) (xs:List SV) (κ : KT R):Option R :=
 match g with
 | _=>none
def h (n:Nat):Option (List (Nat × List (Nat × Nat))) :=
 match n with
 | 3=>some [(0,[(0,0)]),(3,[(0,0)]),(4,[(0,0)])]
 | _=>none
def C:Cfg R:=⟨af bm,Γ R,fun _=>false,h,0,fun _=>false⟩
noncomputable def S:=S0 (C R) Tryz.f94 0
noncomputable def G:=G0 (C R) Tryz.f94 0
def s3:=fun x0 f j=>(⟨er 26 [(0,.str x0),(3,.int .i64 f),(4,.int .i64 j)],[],eo⟩:St)
noncomputable abbrev q3 {R:Type} (J:JT R):J3 R:=fun x0 f j=>J (placeOf Tryz.f94 3) (s3 x0 f j)
theorem k3 (J:JT R) (κ : KT R) (x0 f j:_):S R κ J 3 (s3 x0 f j)=t3 (q3 J) (K0 κ) x0 f j:=by kernel_rfl
theorem k (κ : KT R) (k:Nat) (a0:_):cr (C R) Tryz.f94 10000 k [.str a0] κ = bH.e a0 (q3 (G R κ k)) (K0 κ):=by kernel_rfl
theorem g3 (κ : KT R):∀ (f:Nat),q3 (G R κ f)=L3 (K0 κ) f
 | 0=>rfl
 | f+1=>by
  funext x0 j m
  show S R κ (G R κ f) 3 _=_
  rw [k3,g3 κ f]
  rfl
end
theorem ae {R:Type} (tab:bZ) (f:aq tab) (g:Nat):bM (R:=R) Tryz.prog (af bm) tab g ((C R).call g):=by
 refine aF fun xs κ => ?_
 show aa _ _ _ g xs κ (Γ R g xs κ)
 unfold Γ
 split
 ·exact aa.none
theorem aG {R:Type} (tab:bZ) (f:aq tab) (a0:_) (κ : KT R):aa Tryz.prog (af bm) tab 94 [.str a0] κ (bH a0 (K0 κ)):=ah (C:=C R) (fn:=Tryz.f94) cz (ae tab f) (by kernel_rfl) (by kernel_rfl) (by rw [k];rw [g3 R κ ag];rfl)
end bH
namespace cS
abbrev K0 {R:Type} (κ : KT R):BA->Option R:=fun f=>κ [.str f]
section
variable (R:Type)
def Γ (g:Nat) (xs:List SV) (κ : KT R):Option R :=
 match g with
 | _=>none
def h (n:Nat):Option (List (Nat × List (Nat × Nat))) :=
 match n with
 | 2=>some [(0,[(0,0)]),(1,[(0,0)]),(5,[(0,0)])]
 | _=>none
def C:Cfg R:=⟨af bm,Γ R,fun _=>false,h,0,fun _=>false⟩
noncomputable def S:=S0 (C R) Tryz.f138 0
noncomputable def G:=G0 (C R) Tryz.f138 0
def s2:=fun x0 f j=>(⟨er 24 [(0,.ro 129 x0 true),(1,.str f),(5,.int .i64 j)],[],eo⟩:St)
noncomputable abbrev q2 {R:Type} (J:JT R):J2 R:=fun x0 f j=>J (placeOf Tryz.f138 2) (s2 x0 f j)
theorem k2 (J:JT R) (κ : KT R) (x0 f j:_):S R κ J 2 (s2 x0 f j)=t2 (q2 J) (K0 κ) x0 f j:=by kernel_rfl
theorem k (κ : KT R) (k:Nat) (a0 a1:_):cr (C R) Tryz.f138 10000 k [.ro 129 a0 true,.str a1] κ = cS.e a0 a1 (q2 (G R κ k)) (K0 κ):=by kernel_rfl
theorem g2 (κ : KT R):∀ (f:Nat),q2 (G R κ f)=L2 (K0 κ) f
 | 0=>rfl
 | f+1=>by
  funext x0 j m
  show S R κ (G R κ f) 2 _=_
  rw [k2,g2 κ f]
  rfl
end
theorem ae {R:Type} (tab:bZ) (f:aq tab) (g:Nat):bM (R:=R) Tryz.prog (af bm) tab g ((C R).call g):=by
 refine aF fun xs κ => ?_
 show aa _ _ _ g xs κ (Γ R g xs κ)
 unfold Γ
 split
 ·exact aa.none
theorem aG {R:Type} (tab:bZ) (f:aq tab) (a0 a1:_) (κ : KT R):aa Tryz.prog (af bm) tab 138 [.ro 129 a0 true,.str a1] κ (cS a0 a1 (K0 κ)):=ah (C:=C R) (fn:=Tryz.f138) cz (ae tab f) (by kernel_rfl) (by kernel_rfl) (by rw [k];rw [g2 R κ ag];rfl)
end cS
namespace cq
abbrev K0 {R:Type} (κ : KT R):Bool->Option R:=fun f=>κ [.bool f]
section
variable (R:Type)
def Γ (g:Nat) (xs:List SV) (κ : KT R):Option R :=
 match g with
 | _=>none
def h (n:Nat):Option (List (Nat × List (Nat × Nat))) :=
 match n with
 | 2=>some [(0,[(0,0)]),(3,[(0,0)])]
 | _=>none
def C:Cfg R:=⟨af bm,Γ R,fun _=>false,h,0,fun _=>false⟩
noncomputable def S:=S0 (C R) Tryz.f139 0
noncomputable def G:=G0 (C R) Tryz.f139 0
def s2:=fun x0 f=>(⟨er 22 [(0,.str x0),(3,.int .i64 f)],[],eo⟩:St)
noncomputable abbrev q2 {R:Type} (J:JT R):BA->Int->Option R:=fun x0 f=>J (placeOf Tryz.f139 2) (s2 x0 f)
theorem k2 (J:JT R) (κ : KT R) (x0 f:_):S R κ J 2 (s2 x0 f)=t2 (q2 J) (K0 κ) x0 f:=by kernel_rfl
theorem k (κ : KT R) (k:Nat) (a0:_):cr (C R) Tryz.f139 10000 k [.str a0] κ = cq.e a0 (q2 (G R κ k)) (K0 κ):=by kernel_rfl
theorem g2 (κ : KT R):∀ (f:Nat),q2 (G R κ f)=L2 (K0 κ) f
 | 0=>rfl
 | f+1=>by
  funext x0 j
  show S R κ (G R κ f) 2 _=_
  rw [k2,g2 κ f]
  rfl
end
theorem ae {R:Type} (tab:bZ) (f:aq tab) (g:Nat):bM (R:=R) Tryz.prog (af bm) tab g ((C R).call g):=by
 refine aF fun xs κ => ?_
 show aa _ _ _ g xs κ (Γ R g xs κ)
 unfold Γ
 split
 ·exact aa.none
theorem aG {R:Type} (tab:bZ) (f:aq tab) (a0:_) (κ : KT R):aa Tryz.prog (af bm) tab 139 [.str a0] κ (cq a0 (K0 κ)):=ah (C:=C R) (fn:=Tryz.f139) cz (ae tab f) (by kernel_rfl) (by kernel_rfl) (by rw [k];rw [g2 R κ ag];rfl)
end cq
namespace bK
abbrev K0 {R:Type} (κ : KT R):Int->Int->Option R:=fun f j=>κ [.tup [.int .i64 f,.int .i64 j]]
section
variable (R:Type)
def Γ (g:Nat) (xs:List SV) (κ : KT R):Option R :=
 match g with
 | _=>none
def h (n:Nat):Option (List (Nat × List (Nat × Nat))) :=
 match n with
 | 9=>some [(0,[(0,0)]),(9,[(0,0)]),(10,[(0,0)])]
 | _=>none
def C:Cfg R:=⟨af bm,Γ R,fun _=>false,h,0,fun _=>false⟩
noncomputable def S:=S0 (C R) Tryz.f181 0
noncomputable def G:=G0 (C R) Tryz.f181 0
def s9:=fun x0 f j=>(⟨er 104 [(0,.str x0),(9,.int .i64 f),(10,.int .i64 j)],[],eo⟩:St)
noncomputable abbrev q9 {R:Type} (J:JT R):J9 R:=fun x0 f j=>J (placeOf Tryz.f181 9) (s9 x0 f j)
theorem k9 (J:JT R) (κ : KT R) (x0 f j:_):S R κ J 9 (s9 x0 f j)=t9 (q9 J) (K0 κ) x0 f j:=by kernel_rfl
theorem k (κ : KT R) (k:Nat) (a0 a1 a2:_):cr (C R) Tryz.f181 10000 k [.str a0,.int .i64 a1,.str a2] κ = bK.e a0 a1 a2 (q9 (G R κ k)) (K0 κ):=by kernel_rfl
theorem g9 (κ : KT R):∀ (f:Nat),q9 (G R κ f)=L9 (K0 κ) f
 | 0=>rfl
 | f+1=>by
  funext x0 j m
  show S R κ (G R κ f) 9 _=_
  rw [k9,g9 κ f]
  rfl
end
theorem ae {R:Type} (tab:bZ) (f:aq tab) (g:Nat):bM (R:=R) Tryz.prog (af bm) tab g ((C R).call g):=by
 refine aF fun xs κ => ?_
 show aa _ _ _ g xs κ (Γ R g xs κ)
 unfold Γ
 split
 ·exact aa.none
theorem aG {R:Type} (tab:bZ) (f:aq tab) (a0 a1 a2:_) (κ : KT R):aa Tryz.prog (af bm) tab 181 [.str a0,.int .i64 a1,.str a2] κ (bK a0 a1 a2 (K0 κ)):=ah (C:=C R) (fn:=Tryz.f181) cz (ae tab f) (by kernel_rfl) (by kernel_rfl) (by rw [k];rw [g9 R κ ag];rfl)
end bK
namespace cw
abbrev K0 {R:Type} (κ : KT R):Int->Option R:=fun f=>κ [.int .i64 f]
section
variable (R:Type)
def Γ (g:Nat) (xs:List SV) (κ : KT R):Option R :=
 match g with
 | _=>none
def h (n:Nat):Option (List (Nat × List (Nat × Nat))) :=
 match n with
 | 2=>some [(0,[(0,0)]),(5,[(0,0)])]
 | _=>none
def C:Cfg R:=⟨af bm,Γ R,fun _=>false,h,0,fun _=>false⟩
noncomputable def S:=S0 (C R) Tryz.f182 0
noncomputable def G:=G0 (C R) Tryz.f182 0
def s2:=fun x0 f=>(⟨er 29 [(0,.str x0),(5,.int .i64 f)],[],eo⟩:St)
noncomputable abbrev q2 {R:Type} (J:JT R):BA->Int->Option R:=fun x0 f=>J (placeOf Tryz.f182 2) (s2 x0 f)
theorem k2 (J:JT R) (κ : KT R) (x0 f:_):S R κ J 2 (s2 x0 f)=t2 (q2 J) (K0 κ) x0 f:=by kernel_rfl
theorem k (κ : KT R) (k:Nat) (a0 a1:_):cr (C R) Tryz.f182 10000 k [.str a0,.int .i64 a1] κ = cw.e a0 a1 (q2 (G R κ k)) (K0 κ):=by kernel_rfl
theorem g2 (κ : KT R):∀ (f:Nat),q2 (G R κ f)=L2 (K0 κ) f
 | 0=>rfl
 | f+1=>by
  funext x0 j
  show S R κ (G R κ f) 2 _=_
  rw [k2,g2 κ f]
  rfl
end
theorem ae {R:Type} (tab:bZ) (f:aq tab) (g:Nat):bM (R:=R) Tryz.prog (af bm) tab g ((C R).call g):=by
 refine aF fun xs κ => ?_
 show aa _ _ _ g xs κ (Γ R g xs κ)
 unfold Γ
 split
 ·exact aa.none
theorem aG {R:Type} (tab:bZ) (f:aq tab) (a0 a1:_) (κ : KT R):aa Tryz.prog (af bm) tab 182 [.str a0,.int .i64 a1] κ (cw a0 a1 (K0 κ)):=ah (C:=C R) (fn:=Tryz.f182) cz (ae tab f) (by kernel_rfl) (by kernel_rfl) (by rw [k];rw [g2 R κ ag];rfl)
end cw
namespace cJ
abbrev K0 {R:Type} (κ : KT R):LA->Option R:=fun f=>κ [.fr 29 f true]
section
variable (R:Type) (c1:bK.F R) (c2:cw.F R)
def Γ (g:Nat) (xs:List SV) (κ : KT R):Option R :=
 match g with
 | 181=>(match xs with
  | [.str a0,.int .i64 a1,.str a2]=>c1 a0 a1 a2 (bK.K0 κ)
  | _=>none)
 | 182=>(match xs with
  | [.str a0,.int .i64 a1]=>c2 a0 a1 (cw.K0 κ)
  | _=>none)
 | _=>none
def h (n:Nat):Option (List (Nat × List (Nat × Nat))) :=
 match n with
 | 4=>some [(0,[(0,0)]),(1,[(0,0)]),(5,[(0,31)]),(6,[(0,0)]),(7,[(0,0)])]
 | _=>none
def C:Cfg R:=⟨af bm,Γ R c1 c2,fun _=>false,h,0,fun _=>false⟩
noncomputable def S:=S0 (C R c1 c2) Tryz.f140 0
noncomputable def G:=G0 (C R c1 c2) Tryz.f140 0
def s4:=fun x0 f j m u=>(⟨er 52 [(0,.str x0),(1,.str f),(5,.own 384),(6,.int .i64 j),(7,.int .i64 m)],[(384,.row 29 u true)],eo⟩:St)
noncomputable abbrev q4 {R:Type} (J:JT R):J4 R:=fun x0 f j m u=>J (placeOf Tryz.f140 4) (s4 x0 f j m u)
theorem k4 (J:JT R) (κ : KT R) (x0 f j m u:_):S R c1 c2 κ J 4 (s4 x0 f j m u)=t4 c1 c2 (q4 J) (K0 κ) x0 f j m u:=by kernel_rfl
theorem k (κ : KT R) (k:Nat) (a0 a1:_):cr (C R c1 c2) Tryz.f140 10000 k [.str a0,.str a1] κ = cJ.e c1 c2 a0 a1 (q4 (G R c1 c2 κ k)) (K0 κ):=by kernel_rfl
theorem g4 (κ : KT R):∀ (f:Nat),q4 (G R c1 c2 κ f)=L4 c1 c2 (K0 κ) f
 | 0=>rfl
 | f+1=>by
  funext x0 j m u z
  show S R c1 c2 κ (G R c1 c2 κ f) 4 _=_
  rw [k4,g4 κ f]
  rfl
end
theorem ae {R:Type} (tab:bZ) (f:aq tab) (g:Nat):bM (R:=R) Tryz.prog (af bm) tab g ((C R bK cw).call g):=by
 refine aF fun xs κ => ?_
 show aa _ _ _ g xs κ (Γ R bK cw g xs κ)
 unfold Γ
 split
 ·split
  ·exact bK.aG tab f _ _ _ κ
  ·exact aa.none
 ·split
  ·exact cw.aG tab f _ _ κ
  ·exact aa.none
 ·exact aa.none
theorem aG {R:Type} (tab:bZ) (f:aq tab) (a0 a1:_) (κ : KT R):aa Tryz.prog (af bm) tab 140 [.str a0,.str a1] κ (cJ a0 a1 (K0 κ)):=ah (C:=C R bK cw) (fn:=Tryz.f140) cz (ae tab f) (by kernel_rfl) (by kernel_rfl) (by rw [k];rw [g4 R bK cw κ ag];rfl)
end cJ
namespace aS
abbrev K0 {R:Type} (κ : KT R):Option R:=κ [.nil]
abbrev K1 {R:Type} (κ : KT R):LA->Option R:=fun f=>κ [.fr 29 f true]
section
variable (R:Type) (c1:cS.F R) (c2:cq.F R) (c3:cJ.F R)
def Γ (g:Nat) (xs:List SV) (κ : KT R):Option R :=
 match g with
 | 138=>(match xs with
  | [.ro 129 a0 true,.str a1]=>c1 a0 a1 (cS.K0 κ)
  | _=>none)
 | 139=>(match xs with
  | [.str a0]=>c2 a0 (cq.K0 κ)
  | _=>none)
 | 140=>(match xs with
  | [.str a0,.str a1]=>c3 a0 a1 (cJ.K0 κ)
  | _=>none)
 | _=>none
def h (n:Nat):Option (List (Nat × List (Nat × Nat))) :=
 match n with
 | 11=>some [(3,[(0,0)]),(7,[(0,0)]),(8,[(0,0)])]
 | _=>none
def C:Cfg R:=⟨af bm,Γ R c1 c2 c3,fun _=>false,h,0,fun _=>false⟩
noncomputable def S:=S0 (C R c1 c2 c3) Tryz.f95 0
noncomputable def G:=G0 (C R c1 c2 c3) Tryz.f95 0
def EI:=fun x0 Y x2 x3 x4 x5 x6 x7 x8 x9 f j m u z A M N O U V W X=>(⟨er 101 [(3,.ptr 319 0),(7,.own 512),(8,.int .i64 x0)],[(319,.var 32 [.str Y,.str x2,.str x3,.ro 129 x4 true,.bool x5,.str x6,.bool x7,.str x8,.bool x9,.str f,.bool j,.str m,.ro 129 u true,.ro 9 z true,.bool A,.str M,.int .i64 N,.int .i64 O,.int .i64 U,.int .i64 V,.int .i64 W,.nil]),(512,.row 29 X true)],eo⟩:St)
noncomputable abbrev AO {R:Type} (J:JT R):ui R:=fun x0 Y x2 x3 x4 x5 x6 x7 x8 x9 f j m u z A M N O U V W X=>J (placeOf Tryz.f95 11) (EI x0 Y x2 x3 x4 x5 x6 x7 x8 x9 f j m u z A M N O U V W X)
theorem Gs (J:JT R) (κ : KT R) (x0 Y x2 x3 x4 x5 x6 x7 x8 x9 f j m u z A M N O U V W X:_):S R c1 c2 c3 κ J 11 (EI x0 Y x2 x3 x4 x5 x6 x7 x8 x9 f j m u z A M N O U V W X)=t11 (AO J) (K1 κ) x0 Y x2 x3 x4 x5 x6 x7 x8 x9 f j m u z A M N O U V W X:=by kernel_rfl
theorem k (κ : KT R) (k:Nat) (a0 a1 a2 a3 a4 a5 U V W a9 f j a12 m u z A M N O a20 a21:_):cr (C R c1 c2 c3) Tryz.f95 10000 k [.str a0,.agg [.str a1,.str a2,.str a3,.ro 129 a4 true,.bool a5,.str U,.bool V,.str W,.bool a9,.str f,.bool j,.str a12,.ro 129 m true,.ro 9 u true,.bool z,.str A,.int .i64 M,.int .i64 N,.int .i64 O,.int .i64 a20,.int .i64 a21,.nil]] κ = aS.e c1 c2 c3 a0 a1 a2 a3 a4 a5 U V W a9 f j a12 m u z A M N O a20 a21 (AO (G R c1 c2 c3 κ k)) (K0 κ) (K1 κ):=by kernel_rfl
theorem g11 (κ : KT R):∀ (f:Nat),AO (G R c1 c2 c3 κ f)=sN c1 c2 c3 (K0 κ) (K1 κ) f
 | 0=>rfl
 | f+1=>by
  funext x0 x1 x2 x3 x4 x5 x6 x7 x8 x9 j m u z A M N O U V W X Y
  show S R c1 c2 c3 κ (G R c1 c2 c3 κ f) 11 _=_
  rw [Gs,g11 κ f]
  rfl
end
theorem ae {R:Type} (tab:bZ) (f:aq tab) (g:Nat):bM (R:=R) Tryz.prog (af bm) tab g ((C R cS cq cJ).call g):=by
 refine aF fun xs κ => ?_
 show aa _ _ _ g xs κ (Γ R cS cq cJ g xs κ)
 unfold Γ
 split
 ·split
  ·exact cS.aG tab f _ _ κ
  ·exact aa.none
 ·split
  ·exact cq.aG tab f _ κ
  ·exact aa.none
 ·split
  ·exact cJ.aG tab f _ _ κ
  ·exact aa.none
 ·exact aa.none
theorem aG {R:Type} (tab:bZ) (X:aq tab) (a0 a1 a2 a3 a4 a5 U V W a9 f j a12 m u z A M N O a20 a21:_) (κ : KT R):aa Tryz.prog (af bm) tab 95 [.str a0,.agg [.str a1,.str a2,.str a3,.ro 129 a4 true,.bool a5,.str U,.bool V,.str W,.bool a9,.str f,.bool j,.str a12,.ro 129 m true,.ro 9 u true,.bool z,.str A,.int .i64 M,.int .i64 N,.int .i64 O,.int .i64 a20,.int .i64 a21,.nil]] κ (aS a0 a1 a2 a3 a4 a5 U V W a9 f j a12 m u z A M N O a20 a21 (K0 κ) (K1 κ)):=ah (C:=C R cS cq cJ) (fn:=Tryz.f95) cz (ae tab X) (by kernel_rfl) (by kernel_rfl) (by rw [k];rw [g11 R cS cq cJ κ ag];rfl)
end aS
namespace bo
abbrev K0 {R:Type} (κ : KT R):BA->Option R:=fun f=>κ [.str f]
section
variable (R:Type) (c1:bo.F R)
def Γ (g:Nat) (xs:List SV) (κ : KT R):Option R :=
 match g with
 | 141=>(match xs with
  | [.int .i64 a0]=>c1 a0 (K0 κ)
  | _=>none)
 | _=>none
def h (n:Nat):Option (List (Nat × List (Nat × Nat))) :=
 match n with
 | _=>none
def C:Cfg R:=⟨af bm,Γ R c1,fun _=>false,h,0,fun _=>false⟩
theorem k (κ : KT R) (k:Nat) (a0:_):cr (C R c1) Tryz.f141 10000 k [.int .i64 a0] κ = bo.e c1 a0 (K0 κ):=by kernel_rfl
end
theorem ae {R:Type} (tab:bZ) (j:aq tab) (n:Nat) (f:∀ (a0:_) (κ : KT R),aa Tryz.prog (af bm) tab 141 [.int .i64 a0] κ (bo.R n a0 (K0 κ))) (g:Nat):bM (R:=R) Tryz.prog (af bm) tab g ((C R (bo.R n)).call g):=by
 refine aF fun xs κ => ?_
 show aa _ _ _ g xs κ (Γ R (bo.R n) g xs κ)
 unfold Γ
 split
 ·split
  ·exact f _ κ
  ·exact aa.none
 ·exact aa.none
theorem eO {R:Type} (tab:bZ) (f:aq tab):∀ (n:Nat) (a0:_) (κ : KT R),aa Tryz.prog (af bm) tab 141 [.int .i64 a0] κ (bo.R n a0 (K0 κ))
 | 0,_,_=>aa.none
 | n+1,a0,κ => ah (C:=C R (bo.R n)) (fn:=Tryz.f141) cz (ae tab f n (eO tab f n)) (by kernel_rfl) (by kernel_rfl) (show _=B (bo.R n) a0 (K0 κ) by rw [k];rfl)
theorem aG {R:Type} (tab:bZ) (f:aq tab) (a0:_) (κ : KT R):aa Tryz.prog (af bm) tab 141 [.int .i64 a0] κ (bo a0 (K0 κ)):=eO tab f ag a0 κ
end bo
namespace br
abbrev K0 {R:Type} (κ : KT R):BA->Option R:=fun f=>κ [.str f]
section
variable (R:Type) (c1:bo.F R)
def Γ (g:Nat) (xs:List SV) (κ : KT R):Option R :=
 match g with
 | 141=>(match xs with
  | [.int .i64 a0]=>c1 a0 (bo.K0 κ)
  | _=>none)
 | _=>none
def h (n:Nat):Option (List (Nat × List (Nat × Nat))) :=
 match n with
 | _=>none
def C:Cfg R:=⟨af bm,Γ R c1,fun _=>false,h,0,fun _=>false⟩
theorem k (κ : KT R) (k:Nat) (a0 a1:_):cr (C R c1) Tryz.f96 10000 k [.str a0,.int .i64 a1] κ = br.e c1 a0 a1 (K0 κ):=by kernel_rfl
end
theorem ae {R:Type} (tab:bZ) (f:aq tab) (g:Nat):bM (R:=R) Tryz.prog (af bm) tab g ((C R bo).call g):=by
 refine aF fun xs κ => ?_
 show aa _ _ _ g xs κ (Γ R bo g xs κ)
 unfold Γ
 split
 ·split
  ·exact bo.aG tab f _ κ
  ·exact aa.none
 ·exact aa.none
theorem aG {R:Type} (tab:bZ) (f:aq tab) (a0 a1:_) (κ : KT R):aa Tryz.prog (af bm) tab 96 [.str a0,.int .i64 a1] κ (br a0 a1 (K0 κ)):=ah (C:=C R bo) (fn:=Tryz.f96) cz (ae tab f) (by kernel_rfl) (by kernel_rfl) (by rw [k];rfl)
end br
end Go.Proofs.Ab
