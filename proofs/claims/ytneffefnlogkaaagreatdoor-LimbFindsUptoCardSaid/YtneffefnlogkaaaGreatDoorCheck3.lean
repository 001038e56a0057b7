/- Each plain function is what a call of its Go function does, checked by the kernel (no condition but what its checks ask). -/
import Derived.Test.YtneffefnlogkaaaGreatDoorSeat
import Derived.Test.YtneffefnlogkaaaGreatDoorText
import Derived.Test.YtneffefnlogkaaaGreatDoorCheck2
set_option linter.unusedVariables false
set_option linter.unusedSimpArgs false
set_option maxRecDepth 4000
namespace Go.Proofs.Ab
open Go Go.Proofs
set_option maxRecDepth 100000
namespace au
abbrev K0 {R:Type} (κ : KT R):Q0 R:=fun Y r1 r2 r3 r4 r5 r6 r7 r8 r9 f j m u z A M N O U V W X=>κ [.tup [.agg [.str Y,.str r1,.str r2,.ro 129 r3 true,.bool r4,.str r5,.bool r6,.str r7,.bool r8,.str r9,.bool f,.str j,.ro 129 m true,.ro 9 u true,.bool z,.str A,.int .i64 M,.int .i64 N,.int .i64 O,.int .i64 U,.int .i64 V,.ro 32 W true],.int .i64 X]]
section
variable (R:Type) (c1:bH.F R) (c2:aS.F R) (c3:br.F R) (c4:aY.F R) (c5:au.F R)
def Γ (g:Nat) (xs:List SV) (κ : KT R):Option R :=
 match g with
 | 50=>(match xs with
  | [.str a0,.agg [.str a1,.str a2,.str a3,.ro 129 a4 true,.bool a5,.str U,.bool V,.str W,.bool a9,.str f,.bool j,.str a12,.ro 129 m true,.ro 9 u true,.bool z,.str A,.int .i64 M,.int .i64 N,.int .i64 O,.int .i64 a20,.int .i64 a21,.nil],.int .i64 X,.bool Y,.int .i64 a24]=>c5 a0 a1 a2 a3 a4 a5 U V W a9 f j a12 m u z A M N O a20 a21 X Y a24 (K0 κ)
  | _=>none)
 | 51=>(match xs with
  | [.str a0,.agg [.int .i64 a1,.int .i64 a2],.str a3,.bool a4]=>c4 a0 a1 a2 a3 a4 (aY.K0 κ)
  | _=>none)
 | 94=>(match xs with
  | [.str a0]=>c1 a0 (bH.K0 κ)
  | _=>none)
 | 95=>(match xs with
  | [.str a0,.agg [.str a1,.str a2,.str a3,.ro 129 a4 true,.bool a5,.str U,.bool V,.str W,.bool a9,.str f,.bool j,.str a12,.ro 129 m true,.ro 9 u true,.bool z,.str A,.int .i64 M,.int .i64 N,.int .i64 O,.int .i64 a20,.int .i64 a21,.nil]]=>c2 a0 a1 a2 a3 a4 a5 U V W a9 f j a12 m u z A M N O a20 a21 (aS.K0 κ) (aS.K1 κ)
  | _=>none)
 | 96=>(match xs with
  | [.str a0,.int .i64 a1]=>c3 a0 a1 (br.K0 κ)
  | _=>none)
 | _=>none
def h (n:Nat):Option (List (Nat × List (Nat × Nat))) :=
 match n with
 | 2=>some [(0,[(0,0)]),(2,[(0,0)]),(3,[(0,0)]),(4,[(0,0)]),(6,[(0,0)]),(10,[(0,0)]),(12,[(0,0)])]
 | 4=>some [(0,[(0,0)]),(2,[(0,0)]),(3,[(0,0)]),(4,[(0,0)]),(6,[(0,0)]),(10,[(0,0)]),(12,[(0,0)])]
 | 5=>some [(4,[(0,0)]),(6,[(3,131),(3,1),(12,131),(12,1),(13,11),(13,1),(21,34),(21,1)]),(10,[(0,0)])]
 | 7=>some [(0,[(0,0)]),(2,[(0,0)]),(3,[(0,0)]),(4,[(0,0)]),(6,[(0,0)]),(10,[(0,0)]),(12,[(0,0)]),(13,[(0,31)])]
 | 11=>some [(4,[(0,0)]),(6,[(3,131),(3,1),(12,131),(12,1),(13,11),(13,1),(21,34),(21,1)]),(10,[(0,0)])]
 | 18=>some [(0,[(0,0)]),(2,[(0,0)]),(4,[(0,0)]),(6,[(0,0)]),(10,[(0,0)]),(13,[(0,0)]),(14,[(0,0)])]
 | 20=>some [(6,[(3,131),(3,1),(12,131),(12,1),(13,11),(13,1),(21,34),(21,1)]),(10,[(0,0)]),(16,[(0,0)])]
 | 22=>some [(0,[(0,0)]),(2,[(0,0)]),(4,[(0,0)]),(6,[(21,34)]),(10,[(0,0)]),(13,[(0,0)]),(17,[(0,0)])]
 | 27=>some [(4,[(0,0)]),(6,[(3,131),(3,1),(12,131),(12,1),(13,11),(13,1),(21,34),(21,1)]),(10,[(0,0)])]
 | _=>none
def C:Cfg R:=⟨af bm,Γ R c1 c2 c3 c4 c5,fun g=>Nat.beq g 50,h,0,fun _=>false⟩
noncomputable def S:=S0 (C R c1 c2 c3 c4 c5) Tryz.f50 0
noncomputable def G:=G0 (C R c1 c2 c3 c4 c5) Tryz.f50 0
def s2:=fun x0 x1 x2 x3 x4 x5 x6 x7 x8 x9 f j m u z A M N O U V W X Y ad ae ap ar ax a1 a6 a7 a8 bb be bk bs bx bP bS bV b0 b1 b2=>(⟨er 149 [(0,.str x0),(2,.int .i64 x1),(3,.bool x2),(4,.int .i64 x3),(6,.ptr 511 0),(10,.ptr 767 0),(12,.bool x4)],[(511,.var 32 [.str x5,.str x6,.str x7,.ro 129 x8 true,.bool x9,.str f,.bool j,.str m,.bool u,.str z,.bool A,.str M,.ro 129 N true,.ro 9 O true,.bool U,.str V,.int .i64 W,.int .i64 X,.int .i64 Y,.int .i64 ad,.int .i64 ae,.nil]),(767,.var 32 [.str ap,.str ar,.str ax,.nil,.bool a1,.str a6,.bool a7,.str a8,.bool bb,.str be,.bool bk,.str bs,.nil,.nil,.bool bx,.str bP,.int .i64 bS,.int .i64 bV,.int .i64 b0,.int .i64 b1,.int .i64 b2,.nil])],eo⟩:St)
def s4:=fun x0 x1 x2 x3 x4 x5 x6 x7 x8 x9 f j m u z A M N O U V W X Y ad ae ap ar ax a1 a6 a7 a8 bb be bk bs bx bP bS bV b0 b1 b2=>(⟨er 149 [(0,.str x0),(2,.int .i64 x1),(3,.bool x2),(4,.int .i64 x3),(6,.ptr 511 0),(10,.ptr 767 0),(12,.bool x4)],[(511,.var 32 [.str x5,.str x6,.str x7,.ro 129 x8 true,.bool x9,.str f,.bool j,.str m,.bool u,.str z,.bool A,.str M,.ro 129 N true,.ro 9 O true,.bool U,.str V,.int .i64 W,.int .i64 X,.int .i64 Y,.int .i64 ad,.int .i64 ae,.nil]),(767,.var 32 [.str ap,.str ar,.str ax,.nil,.bool a1,.str a6,.bool a7,.str a8,.bool bb,.str be,.bool bk,.str bs,.nil,.nil,.bool bx,.str bP,.int .i64 bS,.int .i64 bV,.int .i64 b0,.int .i64 b1,.int .i64 b2,.nil])],eo⟩:St)
def s5:=fun x0 x1 x2 x3 x4 x5 x6 x7 x8 x9 f j m u z A M N O U V W X Y ad ae ap ar ax a1 a6 a7 a8 bb be bk bs bx bP bS bV=>(⟨er 149 [(4,.int .i64 x0),(6,.ptr 511 0),(10,.ptr 767 0)],[(511,.var 32 [.str x1,.str x2,.str x3,.ro 129 x4 true,.bool x5,.str x6,.bool x7,.str x8,.bool x9,.str f,.bool j,.str m,.ro 129 u true,.ro 9 z true,.bool A,.str M,.int .i64 N,.int .i64 O,.int .i64 U,.int .i64 V,.int .i64 W,.ro 32 X true]),(767,.var 32 [.str Y,.str ad,.str ae,.nil,.bool ap,.str ar,.bool ax,.str a1,.bool a6,.str a7,.bool a8,.str bb,.nil,.nil,.bool be,.str bk,.int .i64 bs,.int .i64 bx,.int .i64 bP,.int .i64 bS,.int .i64 bV,.nil])],eo⟩:St)
def s7:=fun x0 x1 x2 x3 x4 x5 x6 x7 x8 x9 f j m u z A M N O U V W X Y ad ae ap ar ax a1 a6 a7 a8 bb be bk bs bx bP bS bV b0 b1 b2 b3=>(⟨er 149 [(0,.str x0),(2,.int .i64 x1),(3,.bool x2),(4,.int .i64 x3),(6,.ptr 511 0),(10,.ptr 767 0),(12,.bool x4),(13,.own 896)],[(511,.var 32 [.str x5,.str x6,.str x7,.ro 129 x8 true,.bool x9,.str f,.bool j,.str m,.bool u,.str z,.bool A,.str M,.ro 129 N true,.ro 9 O true,.bool U,.str V,.int .i64 W,.int .i64 X,.int .i64 Y,.int .i64 ad,.int .i64 ae,.nil]),(767,.var 32 [.str ap,.str ar,.str ax,.nil,.bool a1,.str a6,.bool a7,.str a8,.bool bb,.str be,.bool bk,.str bs,.nil,.nil,.bool bx,.str bP,.int .i64 bS,.int .i64 bV,.int .i64 b0,.int .i64 b1,.int .i64 b2,.nil]),(896,.row 29 b3 true)],eo⟩:St)
def EI:=fun x0 x1 x2 x3 x4 x5 x6 x7 x8 x9 f j m u z A M N O U V W X Y ad ae ap ar ax a1 a6 a7 a8 bb be bk bs bx bP bS bV=>(⟨er 149 [(4,.int .i64 x0),(6,.ptr 511 0),(10,.ptr 767 0)],[(511,.var 32 [.str x1,.str x2,.str x3,.ro 129 x4 true,.bool x5,.str x6,.bool x7,.str x8,.bool x9,.str f,.bool j,.str m,.ro 129 u true,.ro 9 z true,.bool A,.str M,.int .i64 N,.int .i64 O,.int .i64 U,.int .i64 V,.int .i64 W,.ro 32 X true]),(767,.var 32 [.str Y,.str ad,.str ae,.nil,.bool ap,.str ar,.bool ax,.str a1,.bool a6,.str a7,.bool a8,.str bb,.nil,.nil,.bool be,.str bk,.int .i64 bs,.int .i64 bx,.int .i64 bP,.int .i64 bS,.int .i64 bV,.nil])],eo⟩:St)
def GV:=fun x0 x1 x2 x3 x4 x5 x6 x7 x8 x9 f j m u z A M N O U V W X Y ad ae ap ar ax a1 a6 a7 a8 bb be bk bs bx bP bS bV b0 b1 b2=>(⟨er 149 [(0,.str x0),(2,.int .i64 x1),(4,.int .i64 x2),(6,.ptr 511 0),(10,.ptr 767 0),(13,.own 896),(14,.str x3)],[(511,.var 32 [.str x4,.str x5,.str x6,.ro 129 x7 true,.bool x8,.str x9,.bool f,.str j,.bool m,.str u,.bool z,.str A,.ro 129 M true,.ro 9 N true,.bool O,.str U,.int .i64 V,.int .i64 W,.int .i64 X,.int .i64 Y,.int .i64 ad,.nil]),(767,.var 32 [.str ae,.str ap,.str ar,.nil,.bool ax,.str a1,.bool a6,.str a7,.bool a8,.str bb,.bool be,.str bk,.nil,.nil,.bool bs,.str bx,.int .i64 bP,.int .i64 bS,.int .i64 bV,.int .i64 b0,.int .i64 b1,.nil]),(896,.row 29 b2 true)],eo⟩:St)
def GW:=fun x0 x1 x2 x3 x4 x5 x6 x7 x8 x9 f j m u z A M N O U V W X Y ad ae ap ar ax a1 a6 a7 a8 bb be bk bs bx bP bS bV=>(⟨er 149 [(6,.ptr 511 0),(10,.ptr 767 0),(16,.int .i64 x0)],[(511,.var 32 [.str x1,.str x2,.str x3,.ro 129 x4 true,.bool x5,.str x6,.bool x7,.str x8,.bool x9,.str f,.bool j,.str m,.ro 129 u true,.ro 9 z true,.bool A,.str M,.int .i64 N,.int .i64 O,.int .i64 U,.int .i64 V,.int .i64 W,.ro 32 X true]),(767,.var 32 [.str Y,.str ad,.str ae,.nil,.bool ap,.str ar,.bool ax,.str a1,.bool a6,.str a7,.bool a8,.str bb,.nil,.nil,.bool be,.str bk,.int .i64 bs,.int .i64 bx,.int .i64 bP,.int .i64 bS,.int .i64 bV,.nil])],eo⟩:St)
def H2:=fun x0 x1 x2 x3 x4 x5 x6 x7 x8 x9 f j m u z A M N O U V W X Y ad ae ap ar ax a1 a6 a7 a8 bb be bk bs bx bP bS bV b0 b1 b2 b3=>(⟨er 149 [(0,.str x0),(2,.int .i64 x1),(4,.int .i64 x2),(6,.ptr 511 0),(10,.ptr 767 0),(13,.own 896),(17,.int .i64 x3)],[(511,.var 32 [.str x4,.str x5,.str x6,.ro 129 x7 true,.bool x8,.str x9,.bool f,.str j,.bool m,.str u,.bool z,.str A,.ro 129 M true,.ro 9 N true,.bool O,.str U,.int .i64 V,.int .i64 W,.int .i64 X,.int .i64 Y,.int .i64 ad,.own 469]),(469,.row 32 ae true),(767,.var 32 [.str ap,.str ar,.str ax,.nil,.bool a1,.str a6,.bool a7,.str a8,.bool bb,.str be,.bool bk,.str bs,.nil,.nil,.bool bx,.str bP,.int .i64 bS,.int .i64 bV,.int .i64 b0,.int .i64 b1,.int .i64 b2,.nil]),(896,.row 29 b3 true)],eo⟩:St)
def H3:=fun x0 x1 x2 x3 x4 x5 x6 x7 x8 x9 f j m u z A M N O U V W X Y ad ae ap ar ax a1 a6 a7 a8 bb be bk bs bx bP bS bV=>(⟨er 149 [(4,.int .i64 x0),(6,.ptr 511 0),(10,.ptr 767 0)],[(511,.var 32 [.str x1,.str x2,.str x3,.ro 129 x4 true,.bool x5,.str x6,.bool x7,.str x8,.bool x9,.str f,.bool j,.str m,.ro 129 u true,.ro 9 z true,.bool A,.str M,.int .i64 N,.int .i64 O,.int .i64 U,.int .i64 V,.int .i64 W,.ro 32 X true]),(767,.var 32 [.str Y,.str ad,.str ae,.nil,.bool ap,.str ar,.bool ax,.str a1,.bool a6,.str a7,.bool a8,.str bb,.nil,.nil,.bool be,.str bk,.int .i64 bs,.int .i64 bx,.int .i64 bP,.int .i64 bS,.int .i64 bV,.nil])],eo⟩:St)
noncomputable abbrev q2 {R:Type} (J:JT R):J2 R:=fun x0 x1 x2 x3 x4 x5 x6 x7 x8 x9 f j m u z A M N O U V W X Y ad ae ap ar ax a1 a6 a7 a8 bb be bk bs bx bP bS bV b0 b1 b2=>J (placeOf Tryz.f50 2) (s2 x0 x1 x2 x3 x4 x5 x6 x7 x8 x9 f j m u z A M N O U V W X Y ad ae ap ar ax a1 a6 a7 a8 bb be bk bs bx bP bS bV b0 b1 b2)
noncomputable abbrev q4 {R:Type} (J:JT R):J4 R:=fun x0 x1 x2 x3 x4 x5 x6 x7 x8 x9 f j m u z A M N O U V W X Y ad ae ap ar ax a1 a6 a7 a8 bb be bk bs bx bP bS bV b0 b1 b2=>J (placeOf Tryz.f50 4) (s4 x0 x1 x2 x3 x4 x5 x6 x7 x8 x9 f j m u z A M N O U V W X Y ad ae ap ar ax a1 a6 a7 a8 bb be bk bs bx bP bS bV b0 b1 b2)
noncomputable abbrev q5 {R:Type} (J:JT R):J5 R:=fun x0 x1 x2 x3 x4 x5 x6 x7 x8 x9 f j m u z A M N O U V W X Y ad ae ap ar ax a1 a6 a7 a8 bb be bk bs bx bP bS bV=>J (placeOf Tryz.f50 5) (s5 x0 x1 x2 x3 x4 x5 x6 x7 x8 x9 f j m u z A M N O U V W X Y ad ae ap ar ax a1 a6 a7 a8 bb be bk bs bx bP bS bV)
noncomputable abbrev q7 {R:Type} (J:JT R):J7 R:=fun x0 x1 x2 x3 x4 x5 x6 x7 x8 x9 f j m u z A M N O U V W X Y ad ae ap ar ax a1 a6 a7 a8 bb be bk bs bx bP bS bV b0 b1 b2 b3=>J (placeOf Tryz.f50 7) (s7 x0 x1 x2 x3 x4 x5 x6 x7 x8 x9 f j m u z A M N O U V W X Y ad ae ap ar ax a1 a6 a7 a8 bb be bk bs bx bP bS bV b0 b1 b2 b3)
noncomputable abbrev AO {R:Type} (J:JT R):ui R:=fun x0 x1 x2 x3 x4 x5 x6 x7 x8 x9 f j m u z A M N O U V W X Y ad ae ap ar ax a1 a6 a7 a8 bb be bk bs bx bP bS bV=>J (placeOf Tryz.f50 11) (EI x0 x1 x2 x3 x4 x5 x6 x7 x8 x9 f j m u z A M N O U V W X Y ad ae ap ar ax a1 a6 a7 a8 bb be bk bs bx bP bS bV)
noncomputable abbrev EF {R:Type} (J:JT R):AK R:=fun x0 x1 x2 x3 x4 x5 x6 x7 x8 x9 f j m u z A M N O U V W X Y ad ae ap ar ax a1 a6 a7 a8 bb be bk bs bx bP bS bV b0 b1 b2=>J (placeOf Tryz.f50 18) (GV x0 x1 x2 x3 x4 x5 x6 x7 x8 x9 f j m u z A M N O U V W X Y ad ae ap ar ax a1 a6 a7 a8 bb be bk bs bx bP bS bV b0 b1 b2)
noncomputable abbrev DX {R:Type} (J:JT R):zi R:=fun x0 x1 x2 x3 x4 x5 x6 x7 x8 x9 f j m u z A M N O U V W X Y ad ae ap ar ax a1 a6 a7 a8 bb be bk bs bx bP bS bV=>J (placeOf Tryz.f50 20) (GW x0 x1 x2 x3 x4 x5 x6 x7 x8 x9 f j m u z A M N O U V W X Y ad ae ap ar ax a1 a6 a7 a8 bb be bk bs bx bP bS bV)
noncomputable abbrev G8 {R:Type} (J:JT R):F1 R:=fun x0 x1 x2 x3 x4 x5 x6 x7 x8 x9 f j m u z A M N O U V W X Y ad ae ap ar ax a1 a6 a7 a8 bb be bk bs bx bP bS bV b0 b1 b2 b3=>J (placeOf Tryz.f50 22) (H2 x0 x1 x2 x3 x4 x5 x6 x7 x8 x9 f j m u z A M N O U V W X Y ad ae ap ar ax a1 a6 a7 a8 bb be bk bs bx bP bS bV b0 b1 b2 b3)
noncomputable abbrev HG {R:Type} (J:JT R):Gd R:=fun x0 x1 x2 x3 x4 x5 x6 x7 x8 x9 f j m u z A M N O U V W X Y ad ae ap ar ax a1 a6 a7 a8 bb be bk bs bx bP bS bV=>J (placeOf Tryz.f50 27) (H3 x0 x1 x2 x3 x4 x5 x6 x7 x8 x9 f j m u z A M N O U V W X Y ad ae ap ar ax a1 a6 a7 a8 bb be bk bs bx bP bS bV)
theorem k2 (J:JT R) (κ : KT R) (x0 x1 x2 x3 x4 x5 x6 x7 x8 x9 f j m u z A M N O U V W X Y ad ae ap ar ax a1 a6 a7 a8 bb be bk bs bx bP bS bV b0 b1 b2:_):S R c1 c2 c3 c4 c5 κ J 2 (s2 x0 x1 x2 x3 x4 x5 x6 x7 x8 x9 f j m u z A M N O U V W X Y ad ae ap ar ax a1 a6 a7 a8 bb be bk bs bx bP bS bV b0 b1 b2)=t2 c1 (q4 J) x0 x1 x2 x3 x4 x5 x6 x7 x8 x9 f j m u z A M N O U V W X Y ad ae ap ar ax a1 a6 a7 a8 bb be bk bs bx bP bS bV b0 b1 b2:=by kernel_rfl
theorem k4 (J:JT R) (κ : KT R) (x0 x1 x2 x3 x4 x5 x6 x7 x8 x9 f j m u z A M N O U V W X Y ad ae ap ar ax a1 a6 a7 a8 bb be bk bs bx bP bS bV b0 b1 b2:_):S R c1 c2 c3 c4 c5 κ J 4 (s4 x0 x1 x2 x3 x4 x5 x6 x7 x8 x9 f j m u z A M N O U V W X Y ad ae ap ar ax a1 a6 a7 a8 bb be bk bs bx bP bS bV b0 b1 b2)=t4 c2 (q5 J) (q7 J) x0 x1 x2 x3 x4 x5 x6 x7 x8 x9 f j m u z A M N O U V W X Y ad ae ap ar ax a1 a6 a7 a8 bb be bk bs bx bP bS bV b0 b1 b2:=by kernel_rfl
theorem k5 (J:JT R) (κ : KT R) (x0 x1 x2 x3 x4 x5 x6 x7 x8 x9 f j m u z A M N O U V W X Y ad ae ap ar ax a1 a6 a7 a8 bb be bk bs bx bP bS bV:_):S R c1 c2 c3 c4 c5 κ J 5 (s5 x0 x1 x2 x3 x4 x5 x6 x7 x8 x9 f j m u z A M N O U V W X Y ad ae ap ar ax a1 a6 a7 a8 bb be bk bs bx bP bS bV)=t5 (K0 κ) x0 x1 x2 x3 x4 x5 x6 x7 x8 x9 f j m u z A M N O U V W X Y ad ae ap ar ax a1 a6 a7 a8 bb be bk bs bx bP bS bV:=by kernel_rfl
theorem k7 (J:JT R) (κ : KT R) (x0 x1 x2 x3 x4 x5 x6 x7 x8 x9 f j m u z A M N O U V W X Y ad ae ap ar ax a1 a6 a7 a8 bb be bk bs bx bP bS bV b0 b1 b2 b3:_):S R c1 c2 c3 c4 c5 κ J 7 (s7 x0 x1 x2 x3 x4 x5 x6 x7 x8 x9 f j m u z A M N O U V W X Y ad ae ap ar ax a1 a6 a7 a8 bb be bk bs bx bP bS bV b0 b1 b2 b3)=t7 c1 c3 (AO J) (EF J) (G8 J) x0 x1 x2 x3 x4 x5 x6 x7 x8 x9 f j m u z A M N O U V W X Y ad ae ap ar ax a1 a6 a7 a8 bb be bk bs bx bP bS bV b0 b1 b2 b3:=by kernel_rfl
theorem Gs (J:JT R) (κ : KT R) (x0 x1 x2 x3 x4 x5 x6 x7 x8 x9 f j m u z A M N O U V W X Y ad ae ap ar ax a1 a6 a7 a8 bb be bk bs bx bP bS bV:_):S R c1 c2 c3 c4 c5 κ J 11 (EI x0 x1 x2 x3 x4 x5 x6 x7 x8 x9 f j m u z A M N O U V W X Y ad ae ap ar ax a1 a6 a7 a8 bb be bk bs bx bP bS bV)=t11 (K0 κ) x0 x1 x2 x3 x4 x5 x6 x7 x8 x9 f j m u z A M N O U V W X Y ad ae ap ar ax a1 a6 a7 a8 bb be bk bs bx bP bS bV:=by kernel_rfl
theorem Hr (J:JT R) (κ : KT R) (x0 x1 x2 x3 x4 x5 x6 x7 x8 x9 f j m u z A M N O U V W X Y ad ae ap ar ax a1 a6 a7 a8 bb be bk bs bx bP bS bV b0 b1 b2:_):S R c1 c2 c3 c4 c5 κ J 18 (GV x0 x1 x2 x3 x4 x5 x6 x7 x8 x9 f j m u z A M N O U V W X Y ad ae ap ar ax a1 a6 a7 a8 bb be bk bs bx bP bS bV b0 b1 b2)=t18 c4 c5 (DX J) x0 x1 x2 x3 x4 x5 x6 x7 x8 x9 f j m u z A M N O U V W X Y ad ae ap ar ax a1 a6 a7 a8 bb be bk bs bx bP bS bV b0 b1 b2:=by kernel_rfl
theorem Hs (J:JT R) (κ : KT R) (x0 x1 x2 x3 x4 x5 x6 x7 x8 x9 f j m u z A M N O U V W X Y ad ae ap ar ax a1 a6 a7 a8 bb be bk bs bx bP bS bV:_):S R c1 c2 c3 c4 c5 κ J 20 (GW x0 x1 x2 x3 x4 x5 x6 x7 x8 x9 f j m u z A M N O U V W X Y ad ae ap ar ax a1 a6 a7 a8 bb be bk bs bx bP bS bV)=t20 (K0 κ) x0 x1 x2 x3 x4 x5 x6 x7 x8 x9 f j m u z A M N O U V W X Y ad ae ap ar ax a1 a6 a7 a8 bb be bk bs bx bP bS bV:=by kernel_rfl
theorem Ic (J:JT R) (κ : KT R) (x0 x1 x2 x3 x4 x5 x6 x7 x8 x9 f j m u z A M N O U V W X Y ad ae ap ar ax a1 a6 a7 a8 bb be bk bs bx bP bS bV b0 b1 b2 b3:_):S R c1 c2 c3 c4 c5 κ J 22 (H2 x0 x1 x2 x3 x4 x5 x6 x7 x8 x9 f j m u z A M N O U V W X Y ad ae ap ar ax a1 a6 a7 a8 bb be bk bs bx bP bS bV b0 b1 b2 b3)=t22 c3 c4 c5 (G8 J) (HG J) x0 x1 x2 x3 x4 x5 x6 x7 x8 x9 f j m u z A M N O U V W X Y ad ae ap ar ax a1 a6 a7 a8 bb be bk bs bx bP bS bV b0 b1 b2 b3:=by kernel_rfl
theorem Ie (J:JT R) (κ : KT R) (x0 x1 x2 x3 x4 x5 x6 x7 x8 x9 f j m u z A M N O U V W X Y ad ae ap ar ax a1 a6 a7 a8 bb be bk bs bx bP bS bV:_):S R c1 c2 c3 c4 c5 κ J 27 (H3 x0 x1 x2 x3 x4 x5 x6 x7 x8 x9 f j m u z A M N O U V W X Y ad ae ap ar ax a1 a6 a7 a8 bb be bk bs bx bP bS bV)=t27 (K0 κ) x0 x1 x2 x3 x4 x5 x6 x7 x8 x9 f j m u z A M N O U V W X Y ad ae ap ar ax a1 a6 a7 a8 bb be bk bs bx bP bS bV:=by kernel_rfl
theorem k (κ : KT R) (k:Nat) (a0 a1 a2 a3 a4 a5 W X Y a9 f j a12 m u z A M N O a20 a21 U V a24:_):cr (C R c1 c2 c3 c4 c5) Tryz.f50 10000 k [.str a0,.agg [.str a1,.str a2,.str a3,.ro 129 a4 true,.bool a5,.str W,.bool X,.str Y,.bool a9,.str f,.bool j,.str a12,.ro 129 m true,.ro 9 u true,.bool z,.str A,.int .i64 M,.int .i64 N,.int .i64 O,.int .i64 a20,.int .i64 a21,.nil],.int .i64 U,.bool V,.int .i64 a24] κ = au.e c1 c2 c3 c4 c5 a0 a1 a2 a3 a4 a5 W X Y a9 f j a12 m u z A M N O a20 a21 U V a24 (q2 (G R c1 c2 c3 c4 c5 κ k)) (q4 (G R c1 c2 c3 c4 c5 κ k)) (q5 (G R c1 c2 c3 c4 c5 κ k)) (q7 (G R c1 c2 c3 c4 c5 κ k)) (AO (G R c1 c2 c3 c4 c5 κ k)) (EF (G R c1 c2 c3 c4 c5 κ k)) (DX (G R c1 c2 c3 c4 c5 κ k)) (G8 (G R c1 c2 c3 c4 c5 κ k)) (HG (G R c1 c2 c3 c4 c5 κ k)) (K0 κ):=by kernel_rfl
theorem g5 (κ : KT R):∀ (f:Nat),q5 (G R c1 c2 c3 c4 c5 κ f)=L5 c1 c2 c3 c4 c5 (K0 κ) f
 | 0=>rfl
 | f+1=>by
  funext x0 x1 x2 x3 x4 x5 x6 x7 x8 x9 j m u z A M N O U V W X Y ad ae ap ar ax a1 a6 a7 a8 bb be bk bs bx bP bS bV b0
  show S R c1 c2 c3 c4 c5 κ (G R c1 c2 c3 c4 c5 κ f) 5 _=_
  rw [k5]
  rfl
theorem g11 (κ : KT R):∀ (f:Nat),AO (G R c1 c2 c3 c4 c5 κ f)=sN c1 c2 c3 c4 c5 (K0 κ) f
 | 0=>rfl
 | f+1=>by
  funext x0 x1 x2 x3 x4 x5 x6 x7 x8 x9 j m u z A M N O U V W X Y ad ae ap ar ax a1 a6 a7 a8 bb be bk bs bx bP bS bV b0
  show S R c1 c2 c3 c4 c5 κ (G R c1 c2 c3 c4 c5 κ f) 11 _=_
  rw [Gs]
  rfl
theorem g20 (κ : KT R):∀ (f:Nat),DX (G R c1 c2 c3 c4 c5 κ f)=AL c1 c2 c3 c4 c5 (K0 κ) f
 | 0=>rfl
 | f+1=>by
  funext x0 x1 x2 x3 x4 x5 x6 x7 x8 x9 j m u z A M N O U V W X Y ad ae ap ar ax a1 a6 a7 a8 bb be bk bs bx bP bS bV b0
  show S R c1 c2 c3 c4 c5 κ (G R c1 c2 c3 c4 c5 κ f) 20 _=_
  rw [Hs]
  rfl
theorem g18 (κ : KT R):∀ (f:Nat),EF (G R c1 c2 c3 c4 c5 κ f)=zk c1 c2 c3 c4 c5 (K0 κ) f
 | 0=>rfl
 | f+1=>by
  funext x0 x1 x2 x3 x4 x5 x6 x7 x8 x9 j m u z A M N O U V W X Y ad ae ap ar ax a1 a6 a7 a8 bb be bk bs bx bP bS bV b0 b1 b2 b3
  show S R c1 c2 c3 c4 c5 κ (G R c1 c2 c3 c4 c5 κ f) 18 _=_
  rw [Hr,g20 R c1 c2 c3 c4 c5 κ f]
  rfl
theorem HT (κ : KT R):∀ (f:Nat),HG (G R c1 c2 c3 c4 c5 κ f)=G3 c1 c2 c3 c4 c5 (K0 κ) f
 | 0=>rfl
 | f+1=>by
  funext x0 x1 x2 x3 x4 x5 x6 x7 x8 x9 j m u z A M N O U V W X Y ad ae ap ar ax a1 a6 a7 a8 bb be bk bs bx bP bS bV b0
  show S R c1 c2 c3 c4 c5 κ (G R c1 c2 c3 c4 c5 κ f) 27 _=_
  rw [Ie]
  rfl
theorem g22 (κ : KT R):∀ (f:Nat),G8 (G R c1 c2 c3 c4 c5 κ f)=Eh c1 c2 c3 c4 c5 (K0 κ) f
 | 0=>rfl
 | f+1=>by
  funext x0 x1 x2 x3 x4 x5 x6 x7 x8 x9 j m u z A M N O U V W X Y ad ae ap ar ax a1 a6 a7 a8 bb be bk bs bx bP bS bV b0 b1 b2 b3 b4
  show S R c1 c2 c3 c4 c5 κ (G R c1 c2 c3 c4 c5 κ f) 22 _=_
  rw [Ic,g22 κ f,HT R c1 c2 c3 c4 c5 κ f]
  rfl
theorem g7 (κ : KT R):∀ (f:Nat),q7 (G R c1 c2 c3 c4 c5 κ f)=L7 c1 c2 c3 c4 c5 (K0 κ) f
 | 0=>rfl
 | f+1=>by
  funext x0 x1 x2 x3 x4 x5 x6 x7 x8 x9 j m u z A M N O U V W X Y ad ae ap ar ax a1 a6 a7 a8 bb be bk bs bx bP bS bV b0 b1 b2 b3 b4
  show S R c1 c2 c3 c4 c5 κ (G R c1 c2 c3 c4 c5 κ f) 7 _=_
  rw [k7,g11 R c1 c2 c3 c4 c5 κ f,g18 R c1 c2 c3 c4 c5 κ f,g22 R c1 c2 c3 c4 c5 κ f]
  rfl
theorem g4 (κ : KT R):∀ (f:Nat),q4 (G R c1 c2 c3 c4 c5 κ f)=L4 c1 c2 c3 c4 c5 (K0 κ) f
 | 0=>rfl
 | f+1=>by
  funext x0 x1 x2 x3 x4 x5 x6 x7 x8 x9 j m u z A M N O U V W X Y ad ae ap ar ax a1 a6 a7 a8 bb be bk bs bx bP bS bV b0 b1 b2 b3
  show S R c1 c2 c3 c4 c5 κ (G R c1 c2 c3 c4 c5 κ f) 4 _=_
  rw [k4,g5 R c1 c2 c3 c4 c5 κ f,g7 R c1 c2 c3 c4 c5 κ f]
  rfl
theorem g2 (κ : KT R):∀ (f:Nat),q2 (G R c1 c2 c3 c4 c5 κ f)=L2 c1 c2 c3 c4 c5 (K0 κ) f
 | 0=>rfl
 | f+1=>by
  funext x0 x1 x2 x3 x4 x5 x6 x7 x8 x9 j m u z A M N O U V W X Y ad ae ap ar ax a1 a6 a7 a8 bb be bk bs bx bP bS bV b0 b1 b2 b3
  show S R c1 c2 c3 c4 c5 κ (G R c1 c2 c3 c4 c5 κ f) 2 _=_
  rw [k2,g4 R c1 c2 c3 c4 c5 κ f]
  rfl
end
theorem ae {R:Type} (tab:bZ) (W:aq tab) (n:Nat) (ih:∀ (a0 a1 a2 a3 a4 a5 X Y a8 a9 f j a12 m u z A M N O a20 a21 U V a24:_) (κ : KT R),aa Tryz.prog (af bm) tab 50 [.str a0,.agg [.str a1,.str a2,.str a3,.ro 129 a4 true,.bool a5,.str X,.bool Y,.str a8,.bool a9,.str f,.bool j,.str a12,.ro 129 m true,.ro 9 u true,.bool z,.str A,.int .i64 M,.int .i64 N,.int .i64 O,.int .i64 a20,.int .i64 a21,.nil],.int .i64 U,.bool V,.int .i64 a24] κ (au.R n a0 a1 a2 a3 a4 a5 X Y a8 a9 f j a12 m u z A M N O a20 a21 U V a24 (K0 κ))) (g:Nat):bM (R:=R) Tryz.prog (af bm) tab g ((C R bH aS br aY (au.R n)).call g):=by
 refine aF fun xs κ => ?_
 show aa _ _ _ g xs κ (Γ R bH aS br aY (au.R n) g xs κ)
 unfold Γ
 split
 ·split
  ·exact ih _ _ _ _ _ _ _ _ _ _ _ _ _ _ _ _ _ _ _ _ _ _ _ _ _ κ
  ·exact aa.none
 ·split
  ·exact aY.aG tab W _ _ _ _ _ κ
  ·exact aa.none
 ·split
  ·exact bH.aG tab W _ κ
  ·exact aa.none
 ·split
  ·exact aS.aG tab W _ _ _ _ _ _ _ _ _ _ _ _ _ _ _ _ _ _ _ _ _ _ κ
  ·exact aa.none
 ·split
  ·exact br.aG tab W _ _ κ
  ·exact aa.none
 ·exact aa.none
theorem eO {R:Type} (tab:bZ) (ht:aq tab):∀ (n:Nat) (a0 a1 a2 a3 a4 a5 W X Y a9 f j a12 m u z A M N O a20 a21 U V a24:_) (κ : KT R),aa Tryz.prog (af bm) tab 50 [.str a0,.agg [.str a1,.str a2,.str a3,.ro 129 a4 true,.bool a5,.str W,.bool X,.str Y,.bool a9,.str f,.bool j,.str a12,.ro 129 m true,.ro 9 u true,.bool z,.str A,.int .i64 M,.int .i64 N,.int .i64 O,.int .i64 a20,.int .i64 a21,.nil],.int .i64 U,.bool V,.int .i64 a24] κ (au.R n a0 a1 a2 a3 a4 a5 W X Y a9 f j a12 m u z A M N O a20 a21 U V a24 (K0 κ))
 | 0,_,_,_,_,_,_,_,_,_,_,_,_,_,_,_,_,_,_,_,_,_,_,_,_,_,_=>aa.none
 | n+1,a0,a1,a2,a3,a4,a5,W,X,Y,a9,f,j,a12,m,u,z,A,M,N,O,a20,a21,U,V,a24,κ => ah (C:=C R bH aS br aY (au.R n)) (fn:=Tryz.f50) cz (ae tab ht n (eO tab ht n)) (by kernel_rfl) (by kernel_rfl) (show _=B bH aS br aY (au.R n) a0 a1 a2 a3 a4 a5 W X Y a9 f j a12 m u z A M N O a20 a21 U V a24 (K0 κ) by rw [k];rw [g2 R bH aS br aY (au.R n) κ ag,g4 R bH aS br aY (au.R n) κ ag,g5 R bH aS br aY (au.R n) κ ag,g7 R bH aS br aY (au.R n) κ ag,g11 R bH aS br aY (au.R n) κ ag,g18 R bH aS br aY (au.R n) κ ag,g20 R bH aS br aY (au.R n) κ ag,g22 R bH aS br aY (au.R n) κ ag,HT R bH aS br aY (au.R n) κ ag];rfl)
theorem aG {R:Type} (tab:bZ) (ht:aq tab) (a0 a1 a2 a3 a4 a5 W X Y a9 f j a12 m u z A M N O a20 a21 U V a24:_) (κ : KT R):aa Tryz.prog (af bm) tab 50 [.str a0,.agg [.str a1,.str a2,.str a3,.ro 129 a4 true,.bool a5,.str W,.bool X,.str Y,.bool a9,.str f,.bool j,.str a12,.ro 129 m true,.ro 9 u true,.bool z,.str A,.int .i64 M,.int .i64 N,.int .i64 O,.int .i64 a20,.int .i64 a21,.nil],.int .i64 U,.bool V,.int .i64 a24] κ (au a0 a1 a2 a3 a4 a5 W X Y a9 f j a12 m u z A M N O a20 a21 U V a24 (K0 κ)):=eO tab ht ag a0 a1 a2 a3 a4 a5 W X Y a9 f j a12 m u z A M N O a20 a21 U V a24 κ
end au
namespace b7
abbrev K0 {R:Type} (κ : KT R):Q0 R:=fun X Y r2 r3 r4 r5 r6 r7 r8 r9 f j m u z A M N O U V W=>κ [.agg [.str X,.str Y,.str r2,.ro 129 r3 true,.bool r4,.str r5,.bool r6,.str r7,.bool r8,.str r9,.bool f,.str j,.ro 129 m true,.ro 9 u true,.bool z,.str A,.int .i64 M,.int .i64 N,.int .i64 O,.int .i64 U,.int .i64 V,.ro 32 W true]]
section
variable (R:Type) (c1:aY.F R) (c2:au.F R)
def Γ (g:Nat) (xs:List SV) (κ : KT R):Option R :=
 match g with
 | 50=>(match xs with
  | [.str a0,.agg [.str a1,.str a2,.str a3,.ro 129 a4 true,.bool a5,.str W,.bool X,.str Y,.bool a9,.str f,.bool j,.str a12,.ro 129 m true,.ro 9 u true,.bool z,.str A,.int .i64 M,.int .i64 N,.int .i64 O,.int .i64 a20,.int .i64 a21,.nil],.int .i64 U,.bool V,.int .i64 a24]=>c2 a0 a1 a2 a3 a4 a5 W X Y a9 f j a12 m u z A M N O a20 a21 U V a24 (au.K0 κ)
  | _=>none)
 | 51=>(match xs with
  | [.str a0,.agg [.int .i64 a1,.int .i64 a2],.str a3,.bool a4]=>c1 a0 a1 a2 a3 a4 (aY.K0 κ)
  | _=>none)
 | _=>none
def h (n:Nat):Option (List (Nat × List (Nat × Nat))) :=
 match n with
 | _=>none
def C:Cfg R:=⟨af bm,Γ R c1 c2,fun g=>Nat.beq g 50,h,0,fun _=>false⟩
theorem k (κ : KT R) (k:Nat) (a0:_):cr (C R c1 c2) Tryz.f15 10000 k [.str a0] κ = b7.e c1 c2 a0 (K0 κ):=by kernel_rfl
end
theorem ae {R:Type} (tab:bZ) (f:aq tab) (g:Nat):bM (R:=R) Tryz.prog (af bm) tab g ((C R aY au).call g):=by
 refine aF fun xs κ => ?_
 show aa _ _ _ g xs κ (Γ R aY au g xs κ)
 unfold Γ
 split
 ·split
  ·exact au.aG tab f _ _ _ _ _ _ _ _ _ _ _ _ _ _ _ _ _ _ _ _ _ _ _ _ _ κ
  ·exact aa.none
 ·split
  ·exact aY.aG tab f _ _ _ _ _ κ
  ·exact aa.none
 ·exact aa.none
theorem aG {R:Type} (tab:bZ) (f:aq tab) (a0:_) (κ : KT R):aa Tryz.prog (af bm) tab 15 [.str a0] κ (b7 a0 (K0 κ)):=ah (C:=C R aY au) (fn:=Tryz.f15) cz (ae tab f) (by kernel_rfl) (by kernel_rfl) (by rw [k];rfl)
end b7
namespace aR
abbrev K0 {R:Type} (κ : KT R):LA->Option R:=fun f=>κ [.fr 9 f true]
section
variable (R:Type) (c1:aR.F R)
def Γ (g:Nat) (xs:List SV) (κ : KT R):Option R :=
 match g with
 | 21=>(match xs with
  | [.agg [.str a0,.str a1,.str a2,.ro 129 a3 true,.bool a4,.str a5,.bool U,.str V,.bool W,.str a9,.bool f,.str j,.ro 129 a12 true,.ro 9 m true,.bool u,.str z,.int .i64 A,.int .i64 M,.int .i64 N,.int .i64 O,.int .i64 a20,.ro 32 a21 true]]=>c1 a0 a1 a2 a3 a4 a5 U V W a9 f j a12 m u z A M N O a20 a21 (K0 κ)
  | _=>none)
 | _=>none
def h (n:Nat):Option (List (Nat × List (Nat × Nat))) :=
 match n with
 | 5=>some [(1,[(0,0)]),(3,[(0,0)]),(4,[(0,0)])]
 | _=>none
def C:Cfg R:=⟨af bm,Γ R c1,fun _=>false,h,0,fun _=>false⟩
noncomputable def S:=S0 (C R c1) Tryz.f21 0
noncomputable def G:=G0 (C R c1) Tryz.f21 0
def s5:=fun x0 x1 x2 x3 x4 x5 x6 x7 x8 x9 f j m u z A M N O U V W X Y=>(⟨er 31 [(1,.ptr 191 0),(3,.own 256),(4,.int .i64 x0)],[(191,.var 32 [.str x1,.str x2,.str x3,.ro 129 x4 true,.bool x5,.str x6,.bool x7,.str x8,.bool x9,.str f,.bool j,.str m,.ro 129 u true,.ro 9 z true,.bool A,.str M,.int .i64 N,.int .i64 O,.int .i64 U,.int .i64 V,.int .i64 W,.ro 32 X true]),(256,.row 9 Y true)],eo⟩:St)
noncomputable abbrev q5 {R:Type} (J:JT R):J5 R:=fun x0 x1 x2 x3 x4 x5 x6 x7 x8 x9 f j m u z A M N O U V W X Y=>J (placeOf Tryz.f21 5) (s5 x0 x1 x2 x3 x4 x5 x6 x7 x8 x9 f j m u z A M N O U V W X Y)
theorem k5 (J:JT R) (κ : KT R) (x0 x1 x2 x3 x4 x5 x6 x7 x8 x9 f j m u z A M N O U V W X Y:_):S R c1 κ J 5 (s5 x0 x1 x2 x3 x4 x5 x6 x7 x8 x9 f j m u z A M N O U V W X Y)=t5 c1 (q5 J) (K0 κ) x0 x1 x2 x3 x4 x5 x6 x7 x8 x9 f j m u z A M N O U V W X Y:=by kernel_rfl
theorem k (κ : KT R) (k:Nat) (a0 a1 a2 a3 a4 a5 U V W a9 f j a12 m u z A M N O a20 a21:_):cr (C R c1) Tryz.f21 10000 k [.agg [.str a0,.str a1,.str a2,.ro 129 a3 true,.bool a4,.str a5,.bool U,.str V,.bool W,.str a9,.bool f,.str j,.ro 129 a12 true,.ro 9 m true,.bool u,.str z,.int .i64 A,.int .i64 M,.int .i64 N,.int .i64 O,.int .i64 a20,.ro 32 a21 true]] κ = aR.e c1 a0 a1 a2 a3 a4 a5 U V W a9 f j a12 m u z A M N O a20 a21 (q5 (G R c1 κ k)) (K0 κ):=by kernel_rfl
theorem g5 (κ : KT R):∀ (f:Nat),q5 (G R c1 κ f)=L5 c1 (K0 κ) f
 | 0=>rfl
 | f+1=>by
  funext x0 x1 x2 x3 x4 x5 x6 x7 x8 x9 j m u z A M N O U V W X Y ad
  show S R c1 κ (G R c1 κ f) 5 _=_
  rw [k5,g5 κ f]
  rfl
end
theorem ae {R:Type} (tab:bZ) (Y:aq tab) (n:Nat) (X:∀ (a0 a1 a2 a3 a4 a5 U V W a9 f j a12 m u z A M N O a20 a21:_) (κ : KT R),aa Tryz.prog (af bm) tab 21 [.agg [.str a0,.str a1,.str a2,.ro 129 a3 true,.bool a4,.str a5,.bool U,.str V,.bool W,.str a9,.bool f,.str j,.ro 129 a12 true,.ro 9 m true,.bool u,.str z,.int .i64 A,.int .i64 M,.int .i64 N,.int .i64 O,.int .i64 a20,.ro 32 a21 true]] κ (aR.R n a0 a1 a2 a3 a4 a5 U V W a9 f j a12 m u z A M N O a20 a21 (K0 κ))) (g:Nat):bM (R:=R) Tryz.prog (af bm) tab g ((C R (aR.R n)).call g):=by
 refine aF fun xs κ => ?_
 show aa _ _ _ g xs κ (Γ R (aR.R n) g xs κ)
 unfold Γ
 split
 ·split
  ·exact X _ _ _ _ _ _ _ _ _ _ _ _ _ _ _ _ _ _ _ _ _ _ κ
  ·exact aa.none
 ·exact aa.none
theorem eO {R:Type} (tab:bZ) (X:aq tab):∀ (n:Nat) (a0 a1 a2 a3 a4 a5 U V W a9 f j a12 m u z A M N O a20 a21:_) (κ : KT R),aa Tryz.prog (af bm) tab 21 [.agg [.str a0,.str a1,.str a2,.ro 129 a3 true,.bool a4,.str a5,.bool U,.str V,.bool W,.str a9,.bool f,.str j,.ro 129 a12 true,.ro 9 m true,.bool u,.str z,.int .i64 A,.int .i64 M,.int .i64 N,.int .i64 O,.int .i64 a20,.ro 32 a21 true]] κ (aR.R n a0 a1 a2 a3 a4 a5 U V W a9 f j a12 m u z A M N O a20 a21 (K0 κ))
 | 0,_,_,_,_,_,_,_,_,_,_,_,_,_,_,_,_,_,_,_,_,_,_,_=>aa.none
 | n+1,a0,a1,a2,a3,a4,a5,U,V,W,a9,f,j,a12,m,u,z,A,M,N,O,a20,a21,κ => ah (C:=C R (aR.R n)) (fn:=Tryz.f21) cz (ae tab X n (eO tab X n)) (by kernel_rfl) (by kernel_rfl) (show _=B (aR.R n) a0 a1 a2 a3 a4 a5 U V W a9 f j a12 m u z A M N O a20 a21 (K0 κ) by rw [k];rw [g5 R (aR.R n) κ ag];rfl)
theorem aG {R:Type} (tab:bZ) (X:aq tab) (a0 a1 a2 a3 a4 a5 U V W a9 f j a12 m u z A M N O a20 a21:_) (κ : KT R):aa Tryz.prog (af bm) tab 21 [.agg [.str a0,.str a1,.str a2,.ro 129 a3 true,.bool a4,.str a5,.bool U,.str V,.bool W,.str a9,.bool f,.str j,.ro 129 a12 true,.ro 9 m true,.bool u,.str z,.int .i64 A,.int .i64 M,.int .i64 N,.int .i64 O,.int .i64 a20,.ro 32 a21 true]] κ (aR a0 a1 a2 a3 a4 a5 U V W a9 f j a12 m u z A M N O a20 a21 (K0 κ)):=eO tab X ag a0 a1 a2 a3 a4 a5 U V W a9 f j a12 m u z A M N O a20 a21 κ
end aR
namespace cb
abbrev K0 {R:Type} (κ : KT R):Int->Option R:=fun f=>κ [.int .i64 f]
section
variable (R:Type)
def Γ (g:Nat) (xs:List SV) (κ : KT R):Option R :=
 match g with
 | _=>none
def h (n:Nat):Option (List (Nat × List (Nat × Nat))) :=
 match n with
 | 3=>some [(0,[(0,0)]),(3,[(0,0)]),(6,[(0,0)]),(7,[(0,0)])]
 | _=>none
def C:Cfg R:=⟨af bm,Γ R,fun _=>false,h,0,fun _=>false⟩
noncomputable def S:=S0 (C R) Tryz.f108 0
noncomputable def G:=G0 (C R) Tryz.f108 0
def s3:=fun x0 f j m=>(⟨er 44 [(0,.str x0),(3,.int .i64 f),(6,.int .i64 j),(7,.int .i64 m)],[],eo⟩:St)
noncomputable abbrev q3 {R:Type} (J:JT R):J3 R:=fun x0 f j m=>J (placeOf Tryz.f108 3) (s3 x0 f j m)
theorem k3 (J:JT R) (κ : KT R) (x0 f j m:_):S R κ J 3 (s3 x0 f j m)=t3 (q3 J) (K0 κ) x0 f j m:=by kernel_rfl
theorem k (κ : KT R) (k:Nat) (a0:_):cr (C R) Tryz.f108 10000 k [.str a0] κ = cb.e a0 (q3 (G R κ k)) (K0 κ):=by kernel_rfl
theorem g3 (κ : KT R):∀ (f:Nat),q3 (G R κ f)=L3 (K0 κ) f
 | 0=>rfl
 | f+1=>by
  funext x0 j m u
  show S R κ (G R κ f) 3 _=_
  rw [k3,g3 κ f]
  rfl
end
theorem ae {R:Type} (tab:bZ) (f:aq tab) (g:Nat):bM (R:=R) Tryz.prog (af bm) tab g ((C R).call g):=by
 refine aF fun xs κ => ?_
 show aa _ _ _ g xs κ (Γ R g xs κ)
 unfold Γ
 split
 ·exact aa.none
theorem aG {R:Type} (tab:bZ) (f:aq tab) (a0:_) (κ : KT R):aa Tryz.prog (af bm) tab 108 [.str a0] κ (cb a0 (K0 κ)):=ah (C:=C R) (fn:=Tryz.f108) cz (ae tab f) (by kernel_rfl) (by kernel_rfl) (by rw [k];rw [g3 R κ ag];rfl)
end cb
namespace bI
abbrev K0 {R:Type} (κ : KT R):Q0 R:=fun U V W X Y r5 r6 r7 r8 r9 f j m u z A M N O=>κ [.tup [.agg [.str U,.str V,.str W,.nil,.bool X,.str Y,.bool r5,.str r6,.bool r7,.str r8,.bool r9,.str f,.nil,.nil,.bool j,.str m,.int .i64 u,.int .i64 z,.int .i64 A,.int .i64 M,.int .i64 N,.nil],.bool O]]
abbrev K1 {R:Type} (κ : KT R):Q1 R:=fun Y r1 r2 r3 r4 r5 r6 r7 r8 r9 f j m u z A M N O U V W X=>κ [.tup [.agg [.str Y,.str r1,.str r2,.ro 129 r3 true,.bool r4,.str r5,.bool r6,.str r7,.bool r8,.str r9,.bool f,.str j,.ro 129 m true,.ro 9 u true,.bool z,.str A,.int .i64 M,.int .i64 N,.int .i64 O,.int .i64 U,.int .i64 V,.ro 32 W true],.bool X]]
section
variable (R:Type) (c1:aA.F R) (c2:bI.F R)
def Γ (g:Nat) (xs:List SV) (κ : KT R):Option R :=
 match g with
 | 59=>(match xs with
  | [.vp 32 [.str a0,.str a1,.str a2,.ro 129 a3 true,.bool a4,.str a5,.bool U,.str V,.bool W,.str a9,.bool f,.str j,.ro 129 a12 true,.ro 9 m true,.bool u,.str z,.int .i64 A,.int .i64 M,.int .i64 N,.int .i64 O,.int .i64 a20,.ro 32 a21 true]]=>c1 a0 a1 a2 a3 a4 a5 U V W a9 f j a12 m u z A M N O a20 a21 (aA.K0 κ)
  | _=>none)
 | 109=>(match xs with
  | [.agg [.str a0,.str a1,.str a2,.ro 129 a3 true,.bool a4,.str a5,.bool U,.str V,.bool W,.str a9,.bool f,.str j,.ro 129 a12 true,.ro 9 m true,.bool u,.str z,.int .i64 A,.int .i64 M,.int .i64 N,.int .i64 O,.int .i64 a20,.ro 32 a21 true],.bool X,.int .i64 Y]=>c2 a0 a1 a2 a3 a4 a5 U V W a9 f j a12 m u z A M N O a20 a21 X Y (K0 κ) (K1 κ)
  | _=>none)
 | _=>none
def h (n:Nat):Option (List (Nat × List (Nat × Nat))) :=
 match n with
 | 3=>some [(1,[(0,0)]),(2,[(0,0)]),(3,[(0,0)]),(6,[(0,0)])]
 | _=>none
def C:Cfg R:=⟨af bm,Γ R c1 c2,fun _=>false,h,0,fun _=>false⟩
noncomputable def S:=S0 (C R c1 c2) Tryz.f109 0
noncomputable def G:=G0 (C R c1 c2) Tryz.f109 0
def s3:=fun x0 x1 x2 x3 x4 x5 x6 x7 x8 x9 f j m u z A M N O U V W X Y ad ae ap ar ax a1 a6 a7 a8 bb be bk bs bx bP bS bV b0=>(⟨er 58 [(1,.bool x0),(2,.int .i64 x1),(3,.ptr 319 0),(6,.ptr 511 0)],[(319,.var 32 [.str x2,.str x3,.str x4,.ro 129 x5 true,.bool x6,.str x7,.bool x8,.str x9,.bool f,.str j,.bool m,.str u,.ro 129 z true,.ro 9 A true,.bool M,.str N,.int .i64 O,.int .i64 U,.int .i64 V,.int .i64 W,.int .i64 X,.ro 32 Y true]),(511,.var 32 [.str ad,.str ae,.str ap,.nil,.bool ar,.str ax,.bool a1,.str a6,.bool a7,.str a8,.bool bb,.str be,.nil,.nil,.bool bk,.str bs,.int .i64 bx,.int .i64 bP,.int .i64 bS,.int .i64 bV,.int .i64 b0,.nil])],eo⟩:St)
noncomputable abbrev q3 {R:Type} (J:JT R):J3 R:=fun x0 x1 x2 x3 x4 x5 x6 x7 x8 x9 f j m u z A M N O U V W X Y ad ae ap ar ax a1 a6 a7 a8 bb be bk bs bx bP bS bV b0=>J (placeOf Tryz.f109 3) (s3 x0 x1 x2 x3 x4 x5 x6 x7 x8 x9 f j m u z A M N O U V W X Y ad ae ap ar ax a1 a6 a7 a8 bb be bk bs bx bP bS bV b0)
theorem k3 (J:JT R) (κ : KT R) (x0 x1 x2 x3 x4 x5 x6 x7 x8 x9 f j m u z A M N O U V W X Y ad ae ap ar ax a1 a6 a7 a8 bb be bk bs bx bP bS bV b0:_):S R c1 c2 κ J 3 (s3 x0 x1 x2 x3 x4 x5 x6 x7 x8 x9 f j m u z A M N O U V W X Y ad ae ap ar ax a1 a6 a7 a8 bb be bk bs bx bP bS bV b0)=t3 (K0 κ) (K1 κ) x0 x1 x2 x3 x4 x5 x6 x7 x8 x9 f j m u z A M N O U V W X Y ad ae ap ar ax a1 a6 a7 a8 bb be bk bs bx bP bS bV b0:=by kernel_rfl
theorem k (κ : KT R) (k:Nat) (a0 a1 a2 a3 a4 a5 W X Y a9 f j a12 m u z A M N O a20 a21 U V:_):cr (C R c1 c2) Tryz.f109 10000 k [.agg [.str a0,.str a1,.str a2,.ro 129 a3 true,.bool a4,.str a5,.bool W,.str X,.bool Y,.str a9,.bool f,.str j,.ro 129 a12 true,.ro 9 m true,.bool u,.str z,.int .i64 A,.int .i64 M,.int .i64 N,.int .i64 O,.int .i64 a20,.ro 32 a21 true],.bool U,.int .i64 V] κ = bI.e c1 c2 a0 a1 a2 a3 a4 a5 W X Y a9 f j a12 m u z A M N O a20 a21 U V (q3 (G R c1 c2 κ k)) (K0 κ) (K1 κ):=by kernel_rfl
theorem g3 (κ : KT R):∀ (f:Nat),q3 (G R c1 c2 κ f)=L3 c1 c2 (K0 κ) (K1 κ) f
 | 0=>rfl
 | f+1=>by
  funext x0 x1 x2 x3 x4 x5 x6 x7 x8 x9 j m u z A M N O U V W X Y ad ae ap ar ax a1 a6 a7 a8 bb be bk bs bx bP bS bV b0 b1
  show S R c1 c2 κ (G R c1 c2 κ f) 3 _=_
  rw [k3]
  rfl
end
theorem ae {R:Type} (tab:bZ) (ht:aq tab) (n:Nat) (ih:∀ (a0 a1 a2 a3 a4 a5 W X Y a9 f j a12 m u z A M N O a20 a21 U V:_) (κ : KT R),aa Tryz.prog (af bm) tab 109 [.agg [.str a0,.str a1,.str a2,.ro 129 a3 true,.bool a4,.str a5,.bool W,.str X,.bool Y,.str a9,.bool f,.str j,.ro 129 a12 true,.ro 9 m true,.bool u,.str z,.int .i64 A,.int .i64 M,.int .i64 N,.int .i64 O,.int .i64 a20,.ro 32 a21 true],.bool U,.int .i64 V] κ (bI.R n a0 a1 a2 a3 a4 a5 W X Y a9 f j a12 m u z A M N O a20 a21 U V (K0 κ) (K1 κ))) (g:Nat):bM (R:=R) Tryz.prog (af bm) tab g ((C R aA (bI.R n)).call g):=by
 refine aF fun xs κ => ?_
 show aa _ _ _ g xs κ (Γ R aA (bI.R n) g xs κ)
 unfold Γ
 split
 ·split
  ·exact aA.aG tab ht _ _ _ _ _ _ _ _ _ _ _ _ _ _ _ _ _ _ _ _ _ _ κ
  ·exact aa.none
 ·split
  ·exact ih _ _ _ _ _ _ _ _ _ _ _ _ _ _ _ _ _ _ _ _ _ _ _ _ κ
  ·exact aa.none
 ·exact aa.none
theorem eO {R:Type} (tab:bZ) (ht:aq tab):∀ (n:Nat) (a0 a1 a2 a3 a4 a5 W X Y a9 f j a12 m u z A M N O a20 a21 U V:_) (κ : KT R),aa Tryz.prog (af bm) tab 109 [.agg [.str a0,.str a1,.str a2,.ro 129 a3 true,.bool a4,.str a5,.bool W,.str X,.bool Y,.str a9,.bool f,.str j,.ro 129 a12 true,.ro 9 m true,.bool u,.str z,.int .i64 A,.int .i64 M,.int .i64 N,.int .i64 O,.int .i64 a20,.ro 32 a21 true],.bool U,.int .i64 V] κ (bI.R n a0 a1 a2 a3 a4 a5 W X Y a9 f j a12 m u z A M N O a20 a21 U V (K0 κ) (K1 κ))
 | 0,_,_,_,_,_,_,_,_,_,_,_,_,_,_,_,_,_,_,_,_,_,_,_,_,_=>aa.none
 | n+1,a0,a1,a2,a3,a4,a5,W,X,Y,a9,f,j,a12,m,u,z,A,M,N,O,a20,a21,U,V,κ => ah (C:=C R aA (bI.R n)) (fn:=Tryz.f109) cz (ae tab ht n (eO tab ht n)) (by kernel_rfl) (by kernel_rfl) (show _=B aA (bI.R n) a0 a1 a2 a3 a4 a5 W X Y a9 f j a12 m u z A M N O a20 a21 U V (K0 κ) (K1 κ) by rw [k];rw [g3 R aA (bI.R n) κ ag];rfl)
theorem aG {R:Type} (tab:bZ) (ht:aq tab) (a0 a1 a2 a3 a4 a5 W X Y a9 f j a12 m u z A M N O a20 a21 U V:_) (κ : KT R):aa Tryz.prog (af bm) tab 109 [.agg [.str a0,.str a1,.str a2,.ro 129 a3 true,.bool a4,.str a5,.bool W,.str X,.bool Y,.str a9,.bool f,.str j,.ro 129 a12 true,.ro 9 m true,.bool u,.str z,.int .i64 A,.int .i64 M,.int .i64 N,.int .i64 O,.int .i64 a20,.ro 32 a21 true],.bool U,.int .i64 V] κ (bI a0 a1 a2 a3 a4 a5 W X Y a9 f j a12 m u z A M N O a20 a21 U V (K0 κ) (K1 κ)):=eO tab ht ag a0 a1 a2 a3 a4 a5 W X Y a9 f j a12 m u z A M N O a20 a21 U V κ
end bI
namespace dt
abbrev K0 {R:Type} (κ : KT R):BA->BA->BA->Bool->BA->Bool->BA->Bool->BA->Bool->BA->Bool->BA->Int->Int->Int->Int->Int->Bool->Option R:=fun U V W X Y r5 r6 r7 r8 r9 f j m u z A M N O=>κ [.tup [.agg [.str U,.str V,.str W,.nil,.bool X,.str Y,.bool r5,.str r6,.bool r7,.str r8,.bool r9,.str f,.nil,.nil,.bool j,.str m,.int .i64 u,.int .i64 z,.int .i64 A,.int .i64 M,.int .i64 N,.nil],.bool O]]
abbrev K1 {R:Type} (κ : KT R):BA->BA->BA->LA->Bool->BA->Bool->BA->Bool->BA->Bool->BA->LA->LA->Bool->BA->Int->Int->Int->Int->Int->LA->Bool->Option R:=fun Y r1 r2 r3 r4 r5 r6 r7 r8 r9 f j m u z A M N O U V W X=>κ [.tup [.agg [.str Y,.str r1,.str r2,.ro 129 r3 true,.bool r4,.str r5,.bool r6,.str r7,.bool r8,.str r9,.bool f,.str j,.ro 129 m true,.ro 9 u true,.bool z,.str A,.int .i64 M,.int .i64 N,.int .i64 O,.int .i64 U,.int .i64 V,.ro 32 W true],.bool X]]
section
variable (R:Type) (c1:cb.F R) (c2:bI.F R) (c3:aL.F R)
def Γ (g:Nat) (xs:List SV) (κ : KT R):Option R :=
 match g with
 | 108=>(match xs with
  | [.str a0]=>c1 a0 (cb.K0 κ)
  | _=>none)
 | 109=>(match xs with
  | [.agg [.str a0,.str a1,.str a2,.ro 129 a3 true,.bool a4,.str a5,.bool W,.str X,.bool Y,.str a9,.bool f,.str j,.ro 129 a12 true,.ro 9 m true,.bool u,.str z,.int .i64 A,.int .i64 M,.int .i64 N,.int .i64 O,.int .i64 a20,.ro 32 a21 true],.bool U,.int .i64 V]=>c2 a0 a1 a2 a3 a4 a5 W X Y a9 f j a12 m u z A M N O a20 a21 U V (bI.K0 κ) (bI.K1 κ)
  | _=>none)
 | 128=>(match xs with
  | [.str a0,.str a1]=>c3 a0 a1 (aL.K0 κ)
  | _=>none)
 | _=>none
def C:Cfg R:=⟨af bm,Γ R c1 c2 c3,fun _=>false,fun _=>none,0,fun _=>false⟩
def F0:SpF:=⟨107,128,ag,⟨#[46]⟩⟩
def st:=fun (a0 a1 a2 a3 a4 a5 a6 a7 a8 a9 j m a12 u z A M N O U a20 a21 f:_) (i:Bool) (x0 x1 x2 x3 x4 x5 x6 x7 x8 x9 V W X Y ad ae ap ar ax bb be bk:_)=>(⟨er 34 [(0,.agg [.str a0,.str a1,.str a2,.ro 129 a3 true,.bool a4,.str a5,.bool a6,.str a7,.bool a8,.str a9,.bool j,.str m,.ro 129 a12 true,.ro 9 u true,.bool z,.str A,.int .i64 M,.int .i64 N,.int .i64 O,.int .i64 U,.int .i64 a20,.ro 32 a21 true]),(1,.str f),(2,.ptr 64 0),(3,.undef),(4,.ptr 65 0),(5,.ptr 66 0),(6,.ptr 67 0),(10,.str f),(11,.bool (decide (f=(⟨#[]⟩:BA)))),(12,.undef),(13,.str f),(14,.no),(31,.undef),(32,.undef),(33,.undef)],[(67,.var 4 [.bool i]),(66,.var 4 [.bool false]),(65,.var 32 [.str (⟨#[]⟩:BA),.str (⟨#[]⟩:BA),.str (⟨#[]⟩:BA),.nil,.bool false,.str (⟨#[]⟩:BA),.bool false,.str (⟨#[]⟩:BA),.bool false,.str (⟨#[]⟩:BA),.bool false,.str (⟨#[]⟩:BA),.nil,.nil,.bool false,.str (⟨#[]⟩:BA),.int .i64 0,.int .i64 0,.int .i64 0,.int .i64 0,.int .i64 0,.nil]),(64,.var 32 [.str x0,.str x1,.str x2,.ro 129 x3 true,.bool x4,.str x5,.bool x6,.str x7,.bool x8,.str x9,.bool V,.str W,.ro 129 X true,.ro 9 Y true,.bool ad,.str ae,.int .i64 ap,.int .i64 ar,.int .i64 ax,.int .i64 bb,.int .i64 be,.ro 32 bk true])],68⟩:St)
noncomputable def I:nw:=(Tryz.f57.body.bind GY).getD default
noncomputable def Z:Code:=(Tryz.f57.body.bind H6).getD .skip
noncomputable def Hc (κ : KT R):Exit->St->Option R:=fun e s1=>(wb (FO (C R c1 c2 c3) Tryz.f57 0 κ) fun s1=>cK (C R c1 c2 c3) Z s1 (E9 (FO (C R c1 c2 c3) Tryz.f57 0 κ))) (wD I.b e) s1
theorem kR (J:BA->St->Option R) (κ : KT R) (a0 a1 a2 a3 a4 a5 a6 a7 a8 a9 Y ad a12 ae ap ar ax bb be bk a20 a21 X:_) (i:Bool) (p:BA) (x0 x1 x2 x3 x4 x5 x6 x7 x8 x9 f j m u z A M N O U V W:_):Ha (C R c1 c2 c3) 128 I (Hc R c1 c2 c3 κ) J p (st a0 a1 a2 a3 a4 a5 a6 a7 a8 a9 Y ad a12 ae ap ar ax bb be bk a20 a21 X i x0 x1 x2 x3 x4 x5 x6 x7 x8 x9 f j m u z A M N O U V W)=t c1 c2 c3 (K0 κ) (K1 κ) X (fun p x0 x1 x2 x3 x4 x5 x6 x7 x8 x9 f j m u z A M N O U V W=>J p (st a0 a1 a2 a3 a4 a5 a6 a7 a8 a9 Y ad a12 ae ap ar ax bb be bk a20 a21 X false x0 x1 x2 x3 x4 x5 x6 x7 x8 x9 f j m u z A M N O U V W)) p x0 x1 x2 x3 x4 x5 x6 x7 x8 x9 f j m u z A M N O U V W i:=by kernel_rfl
theorem kL (κ : KT R) (a0 a1 a2 a3 a4 a5 a6 a7 a8 a9 ae ap a12 ar ax bb be bk bs bx a20 a21 ad:_):∀ (f:Nat) (i:Bool) (p:BA) (x0 x1 x2 x3 x4 x5 x6 x7 x8 x9 m u z A M N O U V W X Y:_),C7 (C R c1 c2 c3) 128 I (Hc R c1 c2 c3 κ) f p (st a0 a1 a2 a3 a4 a5 a6 a7 a8 a9 ae ap a12 ar ax bb be bk bs bx a20 a21 ad i x0 x1 x2 x3 x4 x5 x6 x7 x8 x9 m u z A M N O U V W X Y)=L c1 c2 c3 (K0 κ) (K1 κ) ad f i p x0 x1 x2 x3 x4 x5 x6 x7 x8 x9 m u z A M N O U V W X Y
 | 0,_,_,_,_,_,_,_,_,_,_,_,_,_,_,_,_,_,_,_,_,_,_,_,_=>rfl
 | f+1,i,p,x0,x1,x2,x3,x4,x5,x6,x7,x8,x9,m,u,z,A,M,N,O,U,V,W,X,Y=>(kR R c1 c2 c3 (C7 (C R c1 c2 c3) 128 I (Hc R c1 c2 c3 κ) f) κ a0 a1 a2 a3 a4 a5 a6 a7 a8 a9 ae ap a12 ar ax bb be bk bs bx a20 a21 ad i p x0 x1 x2 x3 x4 x5 x6 x7 x8 x9 m u z A M N O U V W X Y).trans (congrArg (fun j=>t c1 c2 c3 (K0 κ) (K1 κ) ad j p x0 x1 x2 x3 x4 x5 x6 x7 x8 x9 m u z A M N O U V W X Y i) (by
  funext p x0 x1 x2 x3 x4 x5 x6 x7 x8 x9 m u z A M N O U V W X Y
  exact kL κ a0 a1 a2 a3 a4 a5 a6 a7 a8 a9 ae ap a12 ar ax bb be bk bs bx a20 a21 ad f false p x0 x1 x2 x3 x4 x5 x6 x7 x8 x9 m u z A M N O U V W X Y))
theorem k (κ : KT R) (a0 a1 a2 a3 a4 a5 V W X a9 j m a12 u z A M N O U a20 a21 f:_):D1 (C R c1 c2 c3) F0 Tryz.f57 [.agg [.str a0,.str a1,.str a2,.ro 129 a3 true,.bool a4,.str a5,.bool V,.str W,.bool X,.str a9,.bool j,.str m,.ro 129 a12 true,.ro 9 u true,.bool z,.str A,.int .i64 M,.int .i64 N,.int .i64 O,.int .i64 U,.int .i64 a20,.ro 32 a21 true],.str f] κ = (bif (decide (f=(⟨#[]⟩:BA))) then (K1 κ a0 a1 a2 a3 a4 a5 V W X a9 j m a12 u z A M N O U a20 a21 true) else (bF (decide (f.size<281474976710656)) (C7 (C R c1 c2 c3) 128 I (Hc R c1 c2 c3 κ) ag f (st a0 a1 a2 a3 a4 a5 V W X a9 j m a12 u z A M N O U a20 a21 f true a0 a1 a2 a3 a4 a5 V W X a9 j m a12 u z A M N O U a20 a21)))):=by kernel_rfl
end
theorem ae {R:Type} (tab:bZ) (f:aq tab) (g:Nat):bM (R:=R) Tryz.prog (af bm) tab g ((C R cb bI aL).call g):=by
 refine aF fun xs κ => ?_
 show aa _ _ _ g xs κ (Γ R cb bI aL g xs κ)
 unfold Γ
 split
 ·split
  ·exact cb.aG tab f _ κ
  ·exact aa.none
 ·split
  ·exact bI.aG tab f _ _ _ _ _ _ _ _ _ _ _ _ _ _ _ _ _ _ _ _ _ _ _ _ κ
  ·exact aa.none
 ·split
  ·exact aL.aG tab f _ _ κ
  ·exact aa.none
 ·exact aa.none
theorem aG {R:Type} (tab:bZ) (Y:aq tab) (a0 a1 a2 a3 a4 a5 V W X a9 f j a12 m u z A M N O a20 a21 U:_) (κ : KT R):aa Tryz.prog (af bm) tab 57 [.agg [.str a0,.str a1,.str a2,.ro 129 a3 true,.bool a4,.str a5,.bool V,.str W,.bool X,.str a9,.bool f,.str j,.ro 129 a12 true,.ro 9 m true,.bool u,.str z,.int .i64 A,.int .i64 M,.int .i64 N,.int .i64 O,.int .i64 a20,.ro 32 a21 true],.str U] κ (dt a0 a1 a2 a3 a4 a5 V W X a9 f j a12 m u z A M N O a20 a21 U (K0 κ) (K1 κ)):=uC (C:=C R cb bI aL) (fn:=Tryz.f57) cz (ae tab Y) GZ (by kernel_rfl) (by kernel_rfl) ((k R cb bI aL κ a0 a1 a2 a3 a4 a5 V W X a9 f j a12 m u z A M N O a20 a21 U).trans (by rw [kL];rfl))
end dt
namespace dx
abbrev K0 {R:Type} (κ : KT R):Option R:=κ [.nil]
section
variable (R:Type)
def Γ (g:Nat) (xs:List SV) (κ : KT R):Option R :=
 match g with
 | _=>none
def h (n:Nat):Option (List (Nat × List (Nat × Nat))) :=
 match n with
 | _=>none
def C:Cfg R:=⟨af bm,Γ R,fun _=>false,h,0,fun _=>false⟩
theorem k (κ : KT R) (k:Nat):cr (C R) Tryz.f105 10000 k [.nil] κ = dx.e (K0 κ):=by kernel_rfl
end
theorem ae {R:Type} (tab:bZ) (f:aq tab) (g:Nat):bM (R:=R) Tryz.prog (af bm) tab g ((C R).call g):=by
 refine aF fun xs κ => ?_
 show aa _ _ _ g xs κ (Γ R g xs κ)
 unfold Γ
 split
 ·exact aa.none
theorem aG {R:Type} (tab:bZ) (f:aq tab) (κ : KT R):aa Tryz.prog (af bm) tab 105 [.nil] κ (dx (K0 κ)):=ah (C:=C R) (fn:=Tryz.f105) cz (ae tab f) (by kernel_rfl) (by kernel_rfl) (by rw [k];rfl)
end dx
namespace aT
abbrev K0 {R:Type} (κ : KT R):Option R:=κ [.nil]
section
variable (R:Type)
def Γ (g:Nat) (xs:List SV) (κ : KT R):Option R :=
 match g with
 | _=>none
def h (n:Nat):Option (List (Nat × List (Nat × Nat))) :=
 match n with
 | _=>none
def C:Cfg R:=⟨af bm,Γ R,fun _=>false,h,0,fun _=>false⟩
theorem k (κ : KT R) (k:Nat):cr (C R) Tryz.f106 10000 k [.nil] κ = aT.e (K0 κ):=by kernel_rfl
end
theorem ae {R:Type} (tab:bZ) (f:aq tab) (g:Nat):bM (R:=R) Tryz.prog (af bm) tab g ((C R).call g):=by
 refine aF fun xs κ => ?_
 show aa _ _ _ g xs κ (Γ R g xs κ)
 unfold Γ
 split
 ·exact aa.none
theorem aG {R:Type} (tab:bZ) (f:aq tab) (κ : KT R):aa Tryz.prog (af bm) tab 106 [.nil] κ (aT (K0 κ)):=ah (C:=C R) (fn:=Tryz.f106) cz (ae tab f) (by kernel_rfl) (by kernel_rfl) (by rw [k];rfl)
end aT
namespace dQ
abbrev K0 {R:Type} (κ : KT R):Q0 R:=fun O U V W X Y r6 r7 r8 r9 f j m u z A M N=>κ [.agg [.str O,.str U,.str V,.nil,.bool W,.str X,.bool Y,.str r6,.bool r7,.str r8,.bool r9,.str f,.nil,.nil,.bool j,.str m,.int .i64 u,.int .i64 z,.int .i64 A,.int .i64 M,.int .i64 N,.nil]]
section
variable (R:Type) (c1:dx.F R) (c2:aT.F R)
def Γ (g:Nat) (xs:List SV) (κ : KT R):Option R :=
 match g with
 | 105=>(match xs with
  | [.nil]=>c1 (dx.K0 κ)
  | _=>none)
 | 106=>(match xs with
  | [.nil]=>c2 (aT.K0 κ)
  | _=>none)
 | _=>none
def h (n:Nat):Option (List (Nat × List (Nat × Nat))) :=
 match n with
 | 6=>some [(1,[(0,0)]),(2,[(0,0)]),(3,[(0,0)]),(19,[(0,0)]),(20,[(0,0)]),(21,[(0,0)])]
 | _=>none
def C:Cfg R:=⟨af bm,Γ R c1 c2,fun _=>false,h,0,fun _=>false⟩
noncomputable def S:=S0 (C R c1 c2) Tryz.f56 0
noncomputable def G:=G0 (C R c1 c2) Tryz.f56 0
def s6:=fun x0 x1 x2 x3 x4 x5 x6 x7 x8 x9 f j m u z A M N O U V W X Y ad ae ap ar ax a1 a6 a7 a8 bb be bk bs bx=>(⟨er 34 [(1,.ptr 191 0),(2,.ptr 255 0),(3,.nil),(19,.nil),(20,.int .i64 x0),(21,.int .i64 x1)],[(191,.var 32 [.str x2,.str x3,.str x4,.nil,.bool x5,.str x6,.bool x7,.str x8,.bool x9,.str f,.bool j,.str m,.nil,.nil,.bool u,.str z,.int .i64 A,.int .i64 M,.int .i64 N,.int .i64 O,.int .i64 U,.nil]),(255,.var 32 [.str V,.str W,.str X,.nil,.bool Y,.str ad,.bool ae,.str ap,.bool ar,.str ax,.bool a1,.str a6,.nil,.nil,.bool a7,.str a8,.int .i64 bb,.int .i64 be,.int .i64 bk,.int .i64 bs,.int .i64 bx,.nil])],eo⟩:St)
noncomputable abbrev q6 {R:Type} (J:JT R):J6 R:=fun x0 x1 x2 x3 x4 x5 x6 x7 x8 x9 f j m u z A M N O U V W X Y ad ae ap ar ax a1 a6 a7 a8 bb be bk bs bx=>J (placeOf Tryz.f56 6) (s6 x0 x1 x2 x3 x4 x5 x6 x7 x8 x9 f j m u z A M N O U V W X Y ad ae ap ar ax a1 a6 a7 a8 bb be bk bs bx)
theorem k6 (J:JT R) (κ : KT R) (x0 x1 x2 x3 x4 x5 x6 x7 x8 x9 f j m u z A M N O U V W X Y ad ae ap ar ax a1 a6 a7 a8 bb be bk bs bx:_):S R c1 c2 κ J 6 (s6 x0 x1 x2 x3 x4 x5 x6 x7 x8 x9 f j m u z A M N O U V W X Y ad ae ap ar ax a1 a6 a7 a8 bb be bk bs bx)=t6 (K0 κ) x0 x1 x2 x3 x4 x5 x6 x7 x8 x9 f j m u z A M N O U V W X Y ad ae ap ar ax a1 a6 a7 a8 bb be bk bs bx:=by kernel_rfl
theorem k (κ : KT R) (k:Nat) (a0 a1 a2 a3 a4 a5 N O U a9 f j a12 m u z A M:_):cr (C R c1 c2) Tryz.f56 10000 k [.agg [.str a0,.str a1,.str a2,.nil,.bool a3,.str a4,.bool a5,.str N,.bool O,.str U,.bool a9,.str f,.nil,.nil,.bool j,.str a12,.int .i64 m,.int .i64 u,.int .i64 z,.int .i64 A,.int .i64 M,.nil]] κ = dQ.e c1 c2 a0 a1 a2 a3 a4 a5 N O U a9 f j a12 m u z A M (q6 (G R c1 c2 κ k)) (K0 κ):=by kernel_rfl
theorem g6 (κ : KT R):∀ (f:Nat),q6 (G R c1 c2 κ f)=L6 c1 c2 (K0 κ) f
 | 0=>rfl
 | f+1=>by
  funext x0 x1 x2 x3 x4 x5 x6 x7 x8 x9 j m u z A M N O U V W X Y ad ae ap ar ax a1 a6 a7 a8 bb be bk bs bx bP
  show S R c1 c2 κ (G R c1 c2 κ f) 6 _=_
  rw [k6]
  rfl
end
theorem ae {R:Type} (tab:bZ) (f:aq tab) (g:Nat):bM (R:=R) Tryz.prog (af bm) tab g ((C R dx aT).call g):=by
 refine aF fun xs κ => ?_
 show aa _ _ _ g xs κ (Γ R dx aT g xs κ)
 unfold Γ
 split
 ·split
  ·exact dx.aG tab f κ
  ·exact aa.none
 ·split
  ·exact aT.aG tab f κ
  ·exact aa.none
 ·exact aa.none
theorem aG {R:Type} (tab:bZ) (V:aq tab) (a0 a1 a2 a3 a4 a5 N O U a9 f j a12 m u z A M:_) (κ : KT R):aa Tryz.prog (af bm) tab 56 [.agg [.str a0,.str a1,.str a2,.nil,.bool a3,.str a4,.bool a5,.str N,.bool O,.str U,.bool a9,.str f,.nil,.nil,.bool j,.str a12,.int .i64 m,.int .i64 u,.int .i64 z,.int .i64 A,.int .i64 M,.nil]] κ (dQ a0 a1 a2 a3 a4 a5 N O U a9 f j a12 m u z A M (K0 κ)):=ah (C:=C R dx aT) (fn:=Tryz.f56) cz (ae tab V) (by kernel_rfl) (by kernel_rfl) (by rw [k];rw [g6 R dx aT κ ag];rfl)
end dQ
namespace cu
abbrev K0 {R:Type} (κ : KT R):LA->Option R:=fun f=>κ [.fr 129 f true]
abbrev K1 {R:Type} (κ : KT R):Option R:=κ [.nil]
section
variable (R:Type)
def Γ (g:Nat) (xs:List SV) (κ : KT R):Option R :=
 match g with
 | _=>none
def h (n:Nat):Option (List (Nat × List (Nat × Nat))) :=
 match n with
 | _=>none
def C:Cfg R:=⟨af bm,Γ R,fun _=>false,h,0,fun _=>false⟩
theorem k (κ : KT R) (k:Nat) (a0:_):cr (C R) Tryz.f105 10000 k [.ro 129 a0 true] κ = cu.e a0 (K0 κ) (K1 κ):=by kernel_rfl
end
theorem ae {R:Type} (tab:bZ) (f:aq tab) (g:Nat):bM (R:=R) Tryz.prog (af bm) tab g ((C R).call g):=by
 refine aF fun xs κ => ?_
 show aa _ _ _ g xs κ (Γ R g xs κ)
 unfold Γ
 split
 ·exact aa.none
theorem aG {R:Type} (tab:bZ) (f:aq tab) (a0:_) (κ : KT R):aa Tryz.prog (af bm) tab 105 [.ro 129 a0 true] κ (cu a0 (K0 κ) (K1 κ)):=ah (C:=C R) (fn:=Tryz.f105) cz (ae tab f) (by kernel_rfl) (by kernel_rfl) (by rw [k];rfl)
end cu
namespace ay
abbrev K0 {R:Type} (κ : KT R):LA->Option R:=fun f=>κ [.fr 9 f true]
abbrev K1 {R:Type} (κ : KT R):Option R:=κ [.nil]
section
variable (R:Type)
def Γ (g:Nat) (xs:List SV) (κ : KT R):Option R :=
 match g with
 | _=>none
def h (n:Nat):Option (List (Nat × List (Nat × Nat))) :=
 match n with
 | _=>none
def C:Cfg R:=⟨af bm,Γ R,fun _=>false,h,0,fun _=>false⟩
theorem k (κ : KT R) (k:Nat) (a0:_):cr (C R) Tryz.f106 10000 k [.ro 9 a0 true] κ = ay.e a0 (K0 κ) (K1 κ):=by kernel_rfl
end
theorem ae {R:Type} (tab:bZ) (f:aq tab) (g:Nat):bM (R:=R) Tryz.prog (af bm) tab g ((C R).call g):=by
 refine aF fun xs κ => ?_
 show aa _ _ _ g xs κ (Γ R g xs κ)
 unfold Γ
 split
 ·exact aa.none
theorem aG {R:Type} (tab:bZ) (f:aq tab) (a0:_) (κ : KT R):aa Tryz.prog (af bm) tab 106 [.ro 9 a0 true] κ (ay a0 (K0 κ) (K1 κ)):=ah (C:=C R) (fn:=Tryz.f106) cz (ae tab f) (by kernel_rfl) (by kernel_rfl) (by rw [k];rfl)
end ay
namespace bi
abbrev K0 {R:Type} (κ : KT R):Q0 R:=fun W X Y r3 r4 r5 r6 r7 r8 r9 f j m u z A M N O U V=>κ [.agg [.str W,.str X,.str Y,.fr 129 r3 true,.bool r4,.str r5,.bool r6,.str r7,.bool r8,.str r9,.bool f,.str j,.fr 129 m true,.fr 9 u true,.bool z,.str A,.int .i64 M,.int .i64 N,.int .i64 O,.int .i64 U,.int .i64 V,.nil]]
abbrev K1 {R:Type} (κ : KT R):Q1 R:=fun X Y r2 r3 r4 r5 r6 r7 r8 r9 f j m u z A M N O U V W=>κ [.agg [.str X,.str Y,.str r2,.fr 129 r3 true,.bool r4,.str r5,.bool r6,.str r7,.bool r8,.str r9,.bool f,.str j,.fr 129 m true,.fr 9 u true,.bool z,.str A,.int .i64 M,.int .i64 N,.int .i64 O,.int .i64 U,.int .i64 V,.fr 32 W true]]
section
variable (R:Type) (c1:cu.F R) (c2:ay.F R) (c3:bi.F R)
def Γ (g:Nat) (xs:List SV) (κ : KT R):Option R :=
 match g with
 | 56=>(match xs with
  | [.agg [.str a0,.str a1,.str a2,.ro 129 a3 true,.bool a4,.str a5,.bool U,.str V,.bool W,.str a9,.bool f,.str j,.ro 129 a12 true,.ro 9 m true,.bool u,.str z,.int .i64 A,.int .i64 M,.int .i64 N,.int .i64 O,.int .i64 a20,.ro 32 a21 true]]=>c3 a0 a1 a2 a3 a4 a5 U V W a9 f j a12 m u z A M N O a20 a21 (K0 κ) (K1 κ)
  | _=>none)
 | 105=>(match xs with
  | [.ro 129 a0 true]=>c1 a0 (cu.K0 κ) (cu.K1 κ)
  | _=>none)
 | 106=>(match xs with
  | [.ro 9 a0 true]=>c2 a0 (ay.K0 κ) (ay.K1 κ)
  | _=>none)
 | _=>none
def h (n:Nat):Option (List (Nat × List (Nat × Nat))) :=
 match n with
 | 3=>some [(1,[(3,131),(12,131)]),(2,[(0,0)])]
 | 6=>some [(1,[(13,11)]),(2,[(0,0)]),(3,[(0,34)]),(19,[(0,0)]),(20,[(0,0)]),(21,[(0,0)])]
 | _=>none
def C:Cfg R:=⟨af bm,Γ R c1 c2 c3,fun _=>false,h,0,fun _=>false⟩
noncomputable def S:=S0 (C R c1 c2 c3) Tryz.f56 0
noncomputable def G:=G0 (C R c1 c2 c3) Tryz.f56 0
def s3:=fun x0 x1 x2 x3 x4 x5 x6 x7 x8 x9 f j m u z A M N O U V W X Y ad ae ap ar ax a1 a6 a7 a8 bb be bk bs bx bP bS=>(⟨er 34 [(1,.ptr 191 0),(2,.ptr 255 0)],[(191,.var 32 [.str x0,.str x1,.str x2,.own 131,.bool x3,.str x4,.bool x5,.str x6,.bool x7,.str x8,.bool x9,.str f,.own 140,.ro 9 j true,.bool m,.str u,.int .i64 z,.int .i64 A,.int .i64 M,.int .i64 N,.int .i64 O,.ro 32 U true]),(131,.row 129 V true),(140,.row 129 W true),(255,.var 32 [.str X,.str Y,.str ad,.nil,.bool ae,.str ap,.bool ar,.str ax,.bool a1,.str a6,.bool a7,.str a8,.nil,.nil,.bool bb,.str be,.int .i64 bk,.int .i64 bs,.int .i64 bx,.int .i64 bP,.int .i64 bS,.nil])],eo⟩:St)
def s6:=fun x0 x1 x2 x3 x4 x5 x6 x7 x8 x9 f j m u z A M N O U V W X Y ad ae ap ar ax a1 a6 a7 a8 bb be bk bs bx bP bS bV b0 b1 b2=>(⟨er 34 [(1,.ptr 191 0),(2,.ptr 255 0),(3,.own 256),(19,.ro 32 x0 true),(20,.int .i64 x1),(21,.int .i64 x2)],[(191,.var 32 [.str x3,.str x4,.str x5,.own 131,.bool x6,.str x7,.bool x8,.str x9,.bool f,.str j,.bool m,.str u,.own 140,.own 141,.bool z,.str A,.int .i64 M,.int .i64 N,.int .i64 O,.int .i64 U,.int .i64 V,.ro 32 W true]),(131,.row 129 X true),(140,.row 129 Y true),(141,.row 9 ad true),(255,.var 32 [.str ae,.str ap,.str ar,.nil,.bool ax,.str a1,.bool a6,.str a7,.bool a8,.str bb,.bool be,.str bk,.nil,.nil,.bool bs,.str bx,.int .i64 bP,.int .i64 bS,.int .i64 bV,.int .i64 b0,.int .i64 b1,.nil]),(256,.row 32 b2 true)],eo⟩:St)
noncomputable abbrev q3 {R:Type} (J:JT R):J3 R:=fun x0 x1 x2 x3 x4 x5 x6 x7 x8 x9 f j m u z A M N O U V W X Y ad ae ap ar ax a1 a6 a7 a8 bb be bk bs bx bP bS=>J (placeOf Tryz.f56 3) (s3 x0 x1 x2 x3 x4 x5 x6 x7 x8 x9 f j m u z A M N O U V W X Y ad ae ap ar ax a1 a6 a7 a8 bb be bk bs bx bP bS)
noncomputable abbrev q6 {R:Type} (J:JT R):J6 R:=fun x0 x1 x2 x3 x4 x5 x6 x7 x8 x9 f j m u z A M N O U V W X Y ad ae ap ar ax a1 a6 a7 a8 bb be bk bs bx bP bS bV b0 b1 b2=>J (placeOf Tryz.f56 6) (s6 x0 x1 x2 x3 x4 x5 x6 x7 x8 x9 f j m u z A M N O U V W X Y ad ae ap ar ax a1 a6 a7 a8 bb be bk bs bx bP bS bV b0 b1 b2)
theorem k3 (J:JT R) (κ : KT R) (x0 x1 x2 x3 x4 x5 x6 x7 x8 x9 f j m u z A M N O U V W X Y ad ae ap ar ax a1 a6 a7 a8 bb be bk bs bx bP bS:_):S R c1 c2 c3 κ J 3 (s3 x0 x1 x2 x3 x4 x5 x6 x7 x8 x9 f j m u z A M N O U V W X Y ad ae ap ar ax a1 a6 a7 a8 bb be bk bs bx bP bS)=t3 c2 (q6 J) x0 x1 x2 x3 x4 x5 x6 x7 x8 x9 f j m u z A M N O U V W X Y ad ae ap ar ax a1 a6 a7 a8 bb be bk bs bx bP bS:=by kernel_rfl
theorem k6 (J:JT R) (κ : KT R) (x0 x1 x2 x3 x4 x5 x6 x7 x8 x9 f j m u z A M N O U V W X Y ad ae ap ar ax a1 a6 a7 a8 bb be bk bs bx bP bS bV b0 b1 b2:_):S R c1 c2 c3 κ J 6 (s6 x0 x1 x2 x3 x4 x5 x6 x7 x8 x9 f j m u z A M N O U V W X Y ad ae ap ar ax a1 a6 a7 a8 bb be bk bs bx bP bS bV b0 b1 b2)=t6 c3 (q6 J) (K1 κ) x0 x1 x2 x3 x4 x5 x6 x7 x8 x9 f j m u z A M N O U V W X Y ad ae ap ar ax a1 a6 a7 a8 bb be bk bs bx bP bS bV b0 b1 b2:=by kernel_rfl
theorem k (κ : KT R) (k:Nat) (a0 a1 a2 a3 a4 a5 U V W a9 f j a12 m u z A M N O a20 a21:_):cr (C R c1 c2 c3) Tryz.f56 10000 k [.agg [.str a0,.str a1,.str a2,.ro 129 a3 true,.bool a4,.str a5,.bool U,.str V,.bool W,.str a9,.bool f,.str j,.ro 129 a12 true,.ro 9 m true,.bool u,.str z,.int .i64 A,.int .i64 M,.int .i64 N,.int .i64 O,.int .i64 a20,.ro 32 a21 true]] κ = bi.e c1 c2 c3 a0 a1 a2 a3 a4 a5 U V W a9 f j a12 m u z A M N O a20 a21 (q3 (G R c1 c2 c3 κ k)) (q6 (G R c1 c2 c3 κ k)) (K0 κ) (K1 κ):=by kernel_rfl
theorem g6 (κ : KT R):∀ (f:Nat),q6 (G R c1 c2 c3 κ f)=L6 c1 c2 c3 (K0 κ) (K1 κ) f
 | 0=>rfl
 | f+1=>by
  funext x0 x1 x2 x3 x4 x5 x6 x7 x8 x9 j m u z A M N O U V W X Y ad ae ap ar ax a1 a6 a7 a8 bb be bk bs bx bP bS bV b0 b1 b2 b3
  show S R c1 c2 c3 κ (G R c1 c2 c3 κ f) 6 _=_
  rw [k6,g6 κ f]
  rfl
theorem g3 (κ : KT R):∀ (f:Nat),q3 (G R c1 c2 c3 κ f)=L3 c1 c2 c3 (K0 κ) (K1 κ) f
 | 0=>rfl
 | f+1=>by
  funext x0 x1 x2 x3 x4 x5 x6 x7 x8 x9 j m u z A M N O U V W X Y ad ae ap ar ax a1 a6 a7 a8 bb be bk bs bx bP bS bV
  show S R c1 c2 c3 κ (G R c1 c2 c3 κ f) 3 _=_
  rw [k3,g6 R c1 c2 c3 κ f]
  rfl
end
theorem ae {R:Type} (tab:bZ) (U:aq tab) (n:Nat) (Y:∀ (a0 a1 a2 a3 a4 a5 V W X a9 f j a12 m u z A M N O a20 a21:_) (κ : KT R),aa Tryz.prog (af bm) tab 56 [.agg [.str a0,.str a1,.str a2,.ro 129 a3 true,.bool a4,.str a5,.bool V,.str W,.bool X,.str a9,.bool f,.str j,.ro 129 a12 true,.ro 9 m true,.bool u,.str z,.int .i64 A,.int .i64 M,.int .i64 N,.int .i64 O,.int .i64 a20,.ro 32 a21 true]] κ (bi.R n a0 a1 a2 a3 a4 a5 V W X a9 f j a12 m u z A M N O a20 a21 (K0 κ) (K1 κ))) (g:Nat):bM (R:=R) Tryz.prog (af bm) tab g ((C R cu ay (bi.R n)).call g):=by
 refine aF fun xs κ => ?_
 show aa _ _ _ g xs κ (Γ R cu ay (bi.R n) g xs κ)
 unfold Γ
 split
 ·split
  ·exact Y _ _ _ _ _ _ _ _ _ _ _ _ _ _ _ _ _ _ _ _ _ _ κ
  ·exact aa.none
 ·split
  ·exact cu.aG tab U _ κ
  ·exact aa.none
 ·split
  ·exact ay.aG tab U _ κ
  ·exact aa.none
 ·exact aa.none
theorem eO {R:Type} (tab:bZ) (X:aq tab):∀ (n:Nat) (a0 a1 a2 a3 a4 a5 U V W a9 f j a12 m u z A M N O a20 a21:_) (κ : KT R),aa Tryz.prog (af bm) tab 56 [.agg [.str a0,.str a1,.str a2,.ro 129 a3 true,.bool a4,.str a5,.bool U,.str V,.bool W,.str a9,.bool f,.str j,.ro 129 a12 true,.ro 9 m true,.bool u,.str z,.int .i64 A,.int .i64 M,.int .i64 N,.int .i64 O,.int .i64 a20,.ro 32 a21 true]] κ (bi.R n a0 a1 a2 a3 a4 a5 U V W a9 f j a12 m u z A M N O a20 a21 (K0 κ) (K1 κ))
 | 0,_,_,_,_,_,_,_,_,_,_,_,_,_,_,_,_,_,_,_,_,_,_,_=>aa.none
 | n+1,a0,a1,a2,a3,a4,a5,U,V,W,a9,f,j,a12,m,u,z,A,M,N,O,a20,a21,κ => ah (C:=C R cu ay (bi.R n)) (fn:=Tryz.f56) cz (ae tab X n (eO tab X n)) (by kernel_rfl) (by kernel_rfl) (show _=B cu ay (bi.R n) a0 a1 a2 a3 a4 a5 U V W a9 f j a12 m u z A M N O a20 a21 (K0 κ) (K1 κ) by rw [k];rw [g3 R cu ay (bi.R n) κ ag,g6 R cu ay (bi.R n) κ ag];rfl)
theorem aG {R:Type} (tab:bZ) (X:aq tab) (a0 a1 a2 a3 a4 a5 U V W a9 f j a12 m u z A M N O a20 a21:_) (κ : KT R):aa Tryz.prog (af bm) tab 56 [.agg [.str a0,.str a1,.str a2,.ro 129 a3 true,.bool a4,.str a5,.bool U,.str V,.bool W,.str a9,.bool f,.str j,.ro 129 a12 true,.ro 9 m true,.bool u,.str z,.int .i64 A,.int .i64 M,.int .i64 N,.int .i64 O,.int .i64 a20,.ro 32 a21 true]] κ (bi a0 a1 a2 a3 a4 a5 U V W a9 f j a12 m u z A M N O a20 a21 (K0 κ) (K1 κ)):=eO tab X ag a0 a1 a2 a3 a4 a5 U V W a9 f j a12 m u z A M N O a20 a21 κ
end bi
namespace dh
abbrev K0 {R:Type} (κ : KT R):Q0 R:=fun U V W X Y r5 r6 r7 r8 r9 f j m u z A M N O=>κ [.tup [.agg [.str U,.str V,.str W,.nil,.bool X,.str Y,.bool r5,.str r6,.bool r7,.str r8,.bool r9,.str f,.nil,.nil,.bool j,.str m,.int .i64 u,.int .i64 z,.int .i64 A,.int .i64 M,.int .i64 N,.nil],.bool O]]
abbrev K1 {R:Type} (κ : KT R):Q1 R:=fun X Y r2 r3 r4 r5 r6 r7 r8 r9 f j m u z A M N O U V W=>κ [.tup [.agg [.str X,.str Y,.str r2,.fr 129 r3 true,.bool r4,.str r5,.bool r6,.str r7,.bool r8,.str r9,.bool f,.str j,.fr 129 m true,.fr 9 u true,.bool z,.str A,.int .i64 M,.int .i64 N,.int .i64 O,.int .i64 U,.int .i64 V,.nil],.bool W]]
abbrev K2 {R:Type} (κ : KT R):Q2 R:=fun Y r1 r2 r3 r4 r5 r6 r7 r8 r9 f j m u z A M N O U V W X=>κ [.tup [.agg [.str Y,.str r1,.str r2,.fr 129 r3 true,.bool r4,.str r5,.bool r6,.str r7,.bool r8,.str r9,.bool f,.str j,.fr 129 m true,.fr 9 u true,.bool z,.str A,.int .i64 M,.int .i64 N,.int .i64 O,.int .i64 U,.int .i64 V,.fr 32 W true],.bool X]]
section
variable (R:Type) (c1:dt.F R) (c2:dQ.F R) (c3:bi.F R)
def Γ (g:Nat) (xs:List SV) (κ : KT R):Option R :=
 match g with
 | 56=>(match xs with
  | [.agg [.str a0,.str a1,.str a2,.nil,.bool a3,.str a4,.bool a5,.str a6,.bool a7,.str a8,.bool a9,.str f,.nil,.nil,.bool j,.str a12,.int .i64 m,.int .i64 u,.int .i64 z,.int .i64 A,.int .i64 M,.nil]]=>c2 a0 a1 a2 a3 a4 a5 a6 a7 a8 a9 f j a12 m u z A M (dQ.K0 κ)
  | [.agg [.str a0,.str a1,.str a2,.ro 129 a3 true,.bool a4,.str a5,.bool a6,.str a7,.bool a8,.str a9,.bool f,.str j,.ro 129 a12 true,.ro 9 m true,.bool u,.str z,.int .i64 A,.int .i64 M,.int .i64 N,.int .i64 O,.int .i64 a20,.ro 32 a21 true]]=>c3 a0 a1 a2 a3 a4 a5 a6 a7 a8 a9 f j a12 m u z A M N O a20 a21 (bi.K0 κ) (bi.K1 κ)
  | _=>none)
 | 57=>(match xs with
  | [.agg [.str a0,.str a1,.str a2,.ro 129 a3 true,.bool a4,.str a5,.bool a6,.str a7,.bool a8,.str a9,.bool f,.str j,.ro 129 a12 true,.ro 9 m true,.bool u,.str z,.int .i64 A,.int .i64 M,.int .i64 N,.int .i64 O,.int .i64 a20,.ro 32 a21 true],.str ax]=>c1 a0 a1 a2 a3 a4 a5 a6 a7 a8 a9 f j a12 m u z A M N O a20 a21 ax (fun r0 r1 r2 r3 r4 r5 r6 r7 r8 r9 U V W X Y ad ae ap ar=>κ [.tup [.agg [.str r0,.str r1,.str r2,.nil,.bool r3,.str r4,.bool r5,.str r6,.bool r7,.str r8,.bool r9,.str U,.nil,.nil,.bool V,.str W,.int .i64 X,.int .i64 Y,.int .i64 ad,.int .i64 ae,.int .i64 ap,.nil],.bool ar]]) (fun r0 r1 r2 r3 r4 r5 r6 r7 r8 r9 U V W X Y ad ae ap ar bb be bk bs=>κ [.tup [.agg [.str r0,.str r1,.str r2,.ro 129 r3 true,.bool r4,.str r5,.bool r6,.str r7,.bool r8,.str r9,.bool U,.str V,.ro 129 W true,.ro 9 X true,.bool Y,.str ad,.int .i64 ae,.int .i64 ap,.int .i64 ar,.int .i64 bb,.int .i64 be,.ro 32 bk true],.bool bs]])
  | _=>none)
 | _=>none
def h (n:Nat):Option (List (Nat × List (Nat × Nat))) :=
 match n with
 | _=>none
def C:Cfg R:=⟨af bm,Γ R c1 c2 c3,fun _=>false,h,0,fun _=>false⟩
theorem k (κ : KT R) (k:Nat) (a0 a1 a2 a3 a4 a5 V W X a9 f j a12 m u z A M N O a20 a21 U:_):cr (C R c1 c2 c3) Tryz.f22 10000 k [.agg [.str a0,.str a1,.str a2,.ro 129 a3 true,.bool a4,.str a5,.bool V,.str W,.bool X,.str a9,.bool f,.str j,.ro 129 a12 true,.ro 9 m true,.bool u,.str z,.int .i64 A,.int .i64 M,.int .i64 N,.int .i64 O,.int .i64 a20,.ro 32 a21 true],.str U] κ = dh.e c1 c2 c3 a0 a1 a2 a3 a4 a5 V W X a9 f j a12 m u z A M N O a20 a21 U (K0 κ) (K1 κ) (K2 κ):=by kernel_rfl
end
theorem ae {R:Type} (tab:bZ) (f:aq tab) (g:Nat):bM (R:=R) Tryz.prog (af bm) tab g ((C R dt dQ bi).call g):=by
 refine aF fun xs κ => ?_
 show aa _ _ _ g xs κ (Γ R dt dQ bi g xs κ)
 unfold Γ
 split
 ·split
  ·exact dQ.aG tab f _ _ _ _ _ _ _ _ _ _ _ _ _ _ _ _ _ _ κ
  ·exact bi.aG tab f _ _ _ _ _ _ _ _ _ _ _ _ _ _ _ _ _ _ _ _ _ _ κ
  ·exact aa.none
 ·split
  ·exact dt.aG tab f _ _ _ _ _ _ _ _ _ _ _ _ _ _ _ _ _ _ _ _ _ _ _ κ
  ·exact aa.none
 ·exact aa.none
theorem aG {R:Type} (tab:bZ) (Y:aq tab) (a0 a1 a2 a3 a4 a5 V W X a9 f j a12 m u z A M N O a20 a21 U:_) (κ : KT R):aa Tryz.prog (af bm) tab 22 [.agg [.str a0,.str a1,.str a2,.ro 129 a3 true,.bool a4,.str a5,.bool V,.str W,.bool X,.str a9,.bool f,.str j,.ro 129 a12 true,.ro 9 m true,.bool u,.str z,.int .i64 A,.int .i64 M,.int .i64 N,.int .i64 O,.int .i64 a20,.ro 32 a21 true],.str U] κ (dh a0 a1 a2 a3 a4 a5 V W X a9 f j a12 m u z A M N O a20 a21 U (K0 κ) (K1 κ) (K2 κ)):=ah (C:=C R dt dQ bi) (fn:=Tryz.f22) cz (ae tab Y) (by kernel_rfl) (by kernel_rfl) (by rw [k];rfl)
end dh
namespace aI
abbrev K0 {R:Type} (κ : KT R):Bool->Option R:=fun f=>κ [.tup [.nil,.bool f]]
abbrev K1 {R:Type} (κ : KT R):LA->Bool->Option R:=fun f j=>κ [.tup [.fr 3 f true,.bool j]]
section
variable (R:Type)
def Γ (g:Nat) (xs:List SV) (κ : KT R):Option R :=
 match g with
 | _=>none
def h (n:Nat):Option (List (Nat × List (Nat × Nat))) :=
 match n with
 | 5=>some [(0,[(0,0)]),(4,[(0,5)]),(5,[(0,0)]),(6,[(0,0)]),(7,[(0,0)])]
 | _=>none
def C:Cfg R:=⟨af bm,Γ R,fun _=>false,h,0,fun _=>false⟩
noncomputable def S:=S0 (C R) Tryz.f58 0
noncomputable def G:=G0 (C R) Tryz.f58 0
def s5:=fun x0 f j m u=>(⟨er 60 [(0,.str x0),(4,.own 320),(5,.int .i64 f),(6,.int .i64 j),(7,.int .i64 m)],[(320,.row 3 u true)],eo⟩:St)
noncomputable abbrev q5 {R:Type} (J:JT R):J5 R:=fun x0 f j m u=>J (placeOf Tryz.f58 5) (s5 x0 f j m u)
theorem k5 (J:JT R) (κ : KT R) (x0 f j m u:_):S R κ J 5 (s5 x0 f j m u)=t5 (q5 J) (K0 κ) (K1 κ) x0 f j m u:=by kernel_rfl
theorem k (κ : KT R) (k:Nat) (a0:_):cr (C R) Tryz.f58 10000 k [.str a0] κ = aI.e a0 (q5 (G R κ k)) (K0 κ) (K1 κ):=by kernel_rfl
theorem g5 (κ : KT R):∀ (f:Nat),q5 (G R κ f)=L5 (K0 κ) (K1 κ) f
 | 0=>rfl
 | f+1=>by
  funext x0 j m u z
  show S R κ (G R κ f) 5 _=_
  rw [k5,g5 κ f]
  rfl
end
theorem ae {R:Type} (tab:bZ) (f:aq tab) (g:Nat):bM (R:=R) Tryz.prog (af bm) tab g ((C R).call g):=by
 refine aF fun xs κ => ?_
 show aa _ _ _ g xs κ (Γ R g xs κ)
 unfold Γ
 split
 ·exact aa.none
theorem aG {R:Type} (tab:bZ) (f:aq tab) (a0:_) (κ : KT R):aa Tryz.prog (af bm) tab 58 [.str a0] κ (aI a0 (K0 κ) (K1 κ)):=ah (C:=C R) (fn:=Tryz.f58) cz (ae tab f) (by kernel_rfl) (by kernel_rfl) (by rw [k];rw [g5 R κ ag];rfl)
end aI
namespace bR
abbrev K0 {R:Type} (κ : KT R):Q0 R:=fun Y r1 r2 r3 r4 r5 r6 r7 r8 r9 f j m u z A M N O U V W X=>κ [.tup [.agg [.str Y,.str r1,.str r2,.ro 129 r3 true,.bool r4,.str r5,.bool r6,.str r7,.bool r8,.str r9,.bool f,.str j,.ro 129 m true,.ro 9 u true,.bool z,.str A,.int .i64 M,.int .i64 N,.int .i64 O,.int .i64 U,.int .i64 V,.ro 32 W true],.bool X]]
abbrev K1 {R:Type} (κ : KT R):Q1 R:=fun U V W X Y r5 r6 r7 r8 r9 f j m u z A M N O=>κ [.tup [.agg [.str U,.str V,.str W,.nil,.bool X,.str Y,.bool r5,.str r6,.bool r7,.str r8,.bool r9,.str f,.nil,.nil,.bool j,.str m,.int .i64 u,.int .i64 z,.int .i64 A,.int .i64 M,.int .i64 N,.nil],.bool O]]
section
variable (R:Type) (c1:aI.F R)
def Γ (g:Nat) (xs:List SV) (κ : KT R):Option R :=
 match g with
 | 58=>(match xs with
  | [.str a0]=>c1 a0 (aI.K0 κ) (aI.K1 κ)
  | _=>none)
 | _=>none
def h (n:Nat):Option (List (Nat × List (Nat × Nat))) :=
 match n with
 | 4=>some [(1,[(0,0)]),(2,[(0,0)]),(4,[(0,0)]),(6,[(0,5)]),(7,[(0,0)])]
 | 8=>some [(1,[(0,0)]),(2,[(0,0)]),(4,[(0,0)]),(6,[(0,0)]),(8,[(0,0)]),(9,[(0,0)])]
 | 9=>some [(1,[(0,0)]),(2,[(0,0)]),(4,[(0,0)]),(6,[(0,0)]),(8,[(0,0)]),(9,[(0,0)])]
 | 14=>some [(1,[(0,0)]),(2,[(0,0)]),(4,[(0,0)]),(6,[(0,0)]),(8,[(0,0)]),(9,[(0,0)]),(10,[(0,0)])]
 | 18=>some [(1,[(0,0)]),(2,[(0,0)]),(4,[(0,0)]),(6,[(0,0)]),(8,[(0,0)]),(9,[(0,0)]),(10,[(0,0)])]
 | 20=>some [(1,[(0,0)]),(2,[(0,0)]),(4,[(0,0)]),(6,[(0,0)]),(9,[(0,0)])]
 | _=>none
def C:Cfg R:=⟨af bm,Γ R c1,fun _=>false,h,0,fun _=>false⟩
noncomputable def S:=S0 (C R c1) Tryz.f23 0
noncomputable def G:=G0 (C R c1) Tryz.f23 0
def s4:=fun x0 x1 x2 x3 x4 x5 x6 x7 x8 x9 f j m u z A M N O U V W X Y ad ae ap ar ax a1 a6 a7 a8 bb be bk bs bx bP bS bV b0 b1=>(⟨er 82 [(1,.str x0),(2,.ptr 255 0),(4,.ptr 383 0),(6,.own 448),(7,.bool x1)],[(255,.var 32 [.str x2,.str x3,.str x4,.ro 129 x5 true,.bool x6,.str x7,.bool x8,.str x9,.bool f,.str j,.bool m,.str u,.ro 129 z true,.ro 9 A true,.bool M,.str N,.int .i64 O,.int .i64 U,.int .i64 V,.int .i64 W,.int .i64 X,.ro 32 Y true]),(383,.var 32 [.str ad,.str ae,.str ap,.nil,.bool ar,.str ax,.bool a1,.str a6,.bool a7,.str a8,.bool bb,.str be,.nil,.nil,.bool bk,.str bs,.int .i64 bx,.int .i64 bP,.int .i64 bS,.int .i64 bV,.int .i64 b0,.nil]),(448,.row 3 b1 true)],eo⟩:St)
def s8:=fun x0 x1 x2 x3 x4 x5 x6 x7 x8 x9 f j m u z A M N O U V W X Y ad ae ap ar ax a1 a6 a7 a8 bb be bk bs bx bP bS bV b0 b1 b2=>(⟨er 82 [(1,.str x0),(2,.ptr 255 0),(4,.ptr 383 0),(6,.own 448),(8,.bool x1),(9,.int .i64 x2)],[(255,.var 32 [.str x3,.str x4,.str x5,.ro 129 x6 true,.bool x7,.str x8,.bool x9,.str f,.bool j,.str m,.bool u,.str z,.ro 129 A true,.ro 9 M true,.bool N,.str O,.int .i64 U,.int .i64 V,.int .i64 W,.int .i64 X,.int .i64 Y,.ro 32 ad true]),(383,.var 32 [.str ae,.str ap,.str ar,.nil,.bool ax,.str a1,.bool a6,.str a7,.bool a8,.str bb,.bool be,.str bk,.nil,.nil,.bool bs,.str bx,.int .i64 bP,.int .i64 bS,.int .i64 bV,.int .i64 b0,.int .i64 b1,.nil]),(448,.row 3 b2 true)],eo⟩:St)
def s9:=fun x0 x1 x2 x3 x4 x5 x6 x7 x8 x9 f j m u z A M N O U V W X Y ad ae ap ar ax a1 a6 a7 a8 bb be bk bs bx bP bS bV b0 b1 b2=>(⟨er 82 [(1,.str x0),(2,.ptr 255 0),(4,.ptr 383 0),(6,.own 448),(8,.bool x1),(9,.int .i64 x2)],[(255,.var 32 [.str x3,.str x4,.str x5,.ro 129 x6 true,.bool x7,.str x8,.bool x9,.str f,.bool j,.str m,.bool u,.str z,.ro 129 A true,.ro 9 M true,.bool N,.str O,.int .i64 U,.int .i64 V,.int .i64 W,.int .i64 X,.int .i64 Y,.ro 32 ad true]),(383,.var 32 [.str ae,.str ap,.str ar,.nil,.bool ax,.str a1,.bool a6,.str a7,.bool a8,.str bb,.bool be,.str bk,.nil,.nil,.bool bs,.str bx,.int .i64 bP,.int .i64 bS,.int .i64 bV,.int .i64 b0,.int .i64 b1,.nil]),(448,.row 3 b2 true)],eo⟩:St)
def AP:=fun x0 x1 x2 x3 x4 x5 x6 x7 x8 x9 f j m u z A M N O U V W X Y ad ae ap ar ax a1 a6 a7 a8 bb be bk bs bx bP bS bV b0 b1 b2 b3=>(⟨er 82 [(1,.str x0),(2,.ptr 255 0),(4,.ptr 383 0),(6,.own 448),(8,.bool x1),(9,.int .i64 x2),(10,.int .i64 x3)],[(255,.var 32 [.str x4,.str x5,.str x6,.ro 129 x7 true,.bool x8,.str x9,.bool f,.str j,.bool m,.str u,.bool z,.str A,.ro 129 M true,.ro 9 N true,.bool O,.str U,.int .i64 V,.int .i64 W,.int .i64 X,.int .i64 Y,.int .i64 ad,.ro 32 ae true]),(383,.var 32 [.str ap,.str ar,.str ax,.nil,.bool a1,.str a6,.bool a7,.str a8,.bool bb,.str be,.bool bk,.str bs,.nil,.nil,.bool bx,.str bP,.int .i64 bS,.int .i64 bV,.int .i64 b0,.int .i64 b1,.int .i64 b2,.nil]),(448,.row 3 b3 true)],eo⟩:St)
def GV:=fun x0 x1 x2 x3 x4 x5 x6 x7 x8 x9 f j m u z A M N O U V W X Y ad ae ap ar ax a1 a6 a7 a8 bb be bk bs bx bP bS bV b0 b1 b2 b3=>(⟨er 82 [(1,.str x0),(2,.ptr 255 0),(4,.ptr 383 0),(6,.own 448),(8,.bool x1),(9,.int .i64 x2),(10,.int .i64 x3)],[(255,.var 32 [.str x4,.str x5,.str x6,.ro 129 x7 true,.bool x8,.str x9,.bool f,.str j,.bool m,.str u,.bool z,.str A,.ro 129 M true,.ro 9 N true,.bool O,.str U,.int .i64 V,.int .i64 W,.int .i64 X,.int .i64 Y,.int .i64 ad,.ro 32 ae true]),(383,.var 32 [.str ap,.str ar,.str ax,.nil,.bool a1,.str a6,.bool a7,.str a8,.bool bb,.str be,.bool bk,.str bs,.nil,.nil,.bool bx,.str bP,.int .i64 bS,.int .i64 bV,.int .i64 b0,.int .i64 b1,.int .i64 b2,.nil]),(448,.row 3 b3 true)],eo⟩:St)
def GW:=fun x0 x1 x2 x3 x4 x5 x6 x7 x8 x9 f j m u z A M N O U V W X Y ad ae ap ar ax a1 a6 a7 a8 bb be bk bs bx bP bS bV b0 b1=>(⟨er 82 [(1,.str x0),(2,.ptr 255 0),(4,.ptr 383 0),(6,.own 448),(9,.int .i64 x1)],[(255,.var 32 [.str x2,.str x3,.str x4,.ro 129 x5 true,.bool x6,.str x7,.bool x8,.str x9,.bool f,.str j,.bool m,.str u,.ro 129 z true,.ro 9 A true,.bool M,.str N,.int .i64 O,.int .i64 U,.int .i64 V,.int .i64 W,.int .i64 X,.ro 32 Y true]),(383,.var 32 [.str ad,.str ae,.str ap,.nil,.bool ar,.str ax,.bool a1,.str a6,.bool a7,.str a8,.bool bb,.str be,.nil,.nil,.bool bk,.str bs,.int .i64 bx,.int .i64 bP,.int .i64 bS,.int .i64 bV,.int .i64 b0,.nil]),(448,.row 3 b1 true)],eo⟩:St)
noncomputable abbrev q4 {R:Type} (J:JT R):J4 R:=fun x0 x1 x2 x3 x4 x5 x6 x7 x8 x9 f j m u z A M N O U V W X Y ad ae ap ar ax a1 a6 a7 a8 bb be bk bs bx bP bS bV b0 b1=>J (placeOf Tryz.f23 4) (s4 x0 x1 x2 x3 x4 x5 x6 x7 x8 x9 f j m u z A M N O U V W X Y ad ae ap ar ax a1 a6 a7 a8 bb be bk bs bx bP bS bV b0 b1)
noncomputable abbrev q8 {R:Type} (J:JT R):J8 R:=fun x0 x1 x2 x3 x4 x5 x6 x7 x8 x9 f j m u z A M N O U V W X Y ad ae ap ar ax a1 a6 a7 a8 bb be bk bs bx bP bS bV b0 b1 b2=>J (placeOf Tryz.f23 8) (s8 x0 x1 x2 x3 x4 x5 x6 x7 x8 x9 f j m u z A M N O U V W X Y ad ae ap ar ax a1 a6 a7 a8 bb be bk bs bx bP bS bV b0 b1 b2)
noncomputable abbrev q9 {R:Type} (J:JT R):J9 R:=fun x0 x1 x2 x3 x4 x5 x6 x7 x8 x9 f j m u z A M N O U V W X Y ad ae ap ar ax a1 a6 a7 a8 bb be bk bs bx bP bS bV b0 b1 b2=>J (placeOf Tryz.f23 9) (s9 x0 x1 x2 x3 x4 x5 x6 x7 x8 x9 f j m u z A M N O U V W X Y ad ae ap ar ax a1 a6 a7 a8 bb be bk bs bx bP bS bV b0 b1 b2)
noncomputable abbrev yS {R:Type} (J:JT R):qL R:=fun x0 x1 x2 x3 x4 x5 x6 x7 x8 x9 f j m u z A M N O U V W X Y ad ae ap ar ax a1 a6 a7 a8 bb be bk bs bx bP bS bV b0 b1 b2 b3=>J (placeOf Tryz.f23 14) (AP x0 x1 x2 x3 x4 x5 x6 x7 x8 x9 f j m u z A M N O U V W X Y ad ae ap ar ax a1 a6 a7 a8 bb be bk bs bx bP bS bV b0 b1 b2 b3)
noncomputable abbrev EF {R:Type} (J:JT R):AK R:=fun x0 x1 x2 x3 x4 x5 x6 x7 x8 x9 f j m u z A M N O U V W X Y ad ae ap ar ax a1 a6 a7 a8 bb be bk bs bx bP bS bV b0 b1 b2 b3=>J (placeOf Tryz.f23 18) (GV x0 x1 x2 x3 x4 x5 x6 x7 x8 x9 f j m u z A M N O U V W X Y ad ae ap ar ax a1 a6 a7 a8 bb be bk bs bx bP bS bV b0 b1 b2 b3)
noncomputable abbrev DX {R:Type} (J:JT R):zi R:=fun x0 x1 x2 x3 x4 x5 x6 x7 x8 x9 f j m u z A M N O U V W X Y ad ae ap ar ax a1 a6 a7 a8 bb be bk bs bx bP bS bV b0 b1=>J (placeOf Tryz.f23 20) (GW x0 x1 x2 x3 x4 x5 x6 x7 x8 x9 f j m u z A M N O U V W X Y ad ae ap ar ax a1 a6 a7 a8 bb be bk bs bx bP bS bV b0 b1)
theorem k4 (J:JT R) (κ : KT R) (x0 x1 x2 x3 x4 x5 x6 x7 x8 x9 f j m u z A M N O U V W X Y ad ae ap ar ax a1 a6 a7 a8 bb be bk bs bx bP bS bV b0 b1:_):S R c1 κ J 4 (s4 x0 x1 x2 x3 x4 x5 x6 x7 x8 x9 f j m u z A M N O U V W X Y ad ae ap ar ax a1 a6 a7 a8 bb be bk bs bx bP bS bV b0 b1)=t4 (q8 J) (K1 κ) x0 x1 x2 x3 x4 x5 x6 x7 x8 x9 f j m u z A M N O U V W X Y ad ae ap ar ax a1 a6 a7 a8 bb be bk bs bx bP bS bV b0 b1:=by kernel_rfl
theorem k8 (J:JT R) (κ : KT R) (x0 x1 x2 x3 x4 x5 x6 x7 x8 x9 f j m u z A M N O U V W X Y ad ae ap ar ax a1 a6 a7 a8 bb be bk bs bx bP bS bV b0 b1 b2:_):S R c1 κ J 8 (s8 x0 x1 x2 x3 x4 x5 x6 x7 x8 x9 f j m u z A M N O U V W X Y ad ae ap ar ax a1 a6 a7 a8 bb be bk bs bx bP bS bV b0 b1 b2)=t8 (yS J) (K0 κ) x0 x1 x2 x3 x4 x5 x6 x7 x8 x9 f j m u z A M N O U V W X Y ad ae ap ar ax a1 a6 a7 a8 bb be bk bs bx bP bS bV b0 b1 b2:=by kernel_rfl
theorem k9 (J:JT R) (κ : KT R) (x0 x1 x2 x3 x4 x5 x6 x7 x8 x9 f j m u z A M N O U V W X Y ad ae ap ar ax a1 a6 a7 a8 bb be bk bs bx bP bS bV b0 b1 b2:_):S R c1 κ J 9 (s9 x0 x1 x2 x3 x4 x5 x6 x7 x8 x9 f j m u z A M N O U V W X Y ad ae ap ar ax a1 a6 a7 a8 bb be bk bs bx bP bS bV b0 b1 b2)=t9 (q8 J) x0 x1 x2 x3 x4 x5 x6 x7 x8 x9 f j m u z A M N O U V W X Y ad ae ap ar ax a1 a6 a7 a8 bb be bk bs bx bP bS bV b0 b1 b2:=by kernel_rfl
theorem Gt (J:JT R) (κ : KT R) (x0 x1 x2 x3 x4 x5 x6 x7 x8 x9 f j m u z A M N O U V W X Y ad ae ap ar ax a1 a6 a7 a8 bb be bk bs bx bP bS bV b0 b1 b2 b3:_):S R c1 κ J 14 (AP x0 x1 x2 x3 x4 x5 x6 x7 x8 x9 f j m u z A M N O U V W X Y ad ae ap ar ax a1 a6 a7 a8 bb be bk bs bx bP bS bV b0 b1 b2 b3)=t14 (EF J) (DX J) (K1 κ) x0 x1 x2 x3 x4 x5 x6 x7 x8 x9 f j m u z A M N O U V W X Y ad ae ap ar ax a1 a6 a7 a8 bb be bk bs bx bP bS bV b0 b1 b2 b3:=by kernel_rfl
theorem Hr (J:JT R) (κ : KT R) (x0 x1 x2 x3 x4 x5 x6 x7 x8 x9 f j m u z A M N O U V W X Y ad ae ap ar ax a1 a6 a7 a8 bb be bk bs bx bP bS bV b0 b1 b2 b3:_):S R c1 κ J 18 (GV x0 x1 x2 x3 x4 x5 x6 x7 x8 x9 f j m u z A M N O U V W X Y ad ae ap ar ax a1 a6 a7 a8 bb be bk bs bx bP bS bV b0 b1 b2 b3)=t18 (DX J) (K1 κ) x0 x1 x2 x3 x4 x5 x6 x7 x8 x9 f j m u z A M N O U V W X Y ad ae ap ar ax a1 a6 a7 a8 bb be bk bs bx bP bS bV b0 b1 b2 b3:=by kernel_rfl
theorem Hs (J:JT R) (κ : KT R) (x0 x1 x2 x3 x4 x5 x6 x7 x8 x9 f j m u z A M N O U V W X Y ad ae ap ar ax a1 a6 a7 a8 bb be bk bs bx bP bS bV b0 b1:_):S R c1 κ J 20 (GW x0 x1 x2 x3 x4 x5 x6 x7 x8 x9 f j m u z A M N O U V W X Y ad ae ap ar ax a1 a6 a7 a8 bb be bk bs bx bP bS bV b0 b1)=t20 (q9 J) x0 x1 x2 x3 x4 x5 x6 x7 x8 x9 f j m u z A M N O U V W X Y ad ae ap ar ax a1 a6 a7 a8 bb be bk bs bx bP bS bV b0 b1:=by kernel_rfl
theorem k (κ : KT R) (k:Nat) (a0 a1 a2 a3 a4 a5 V W X a9 f j a12 m u z A M N O a20 a21 U:_):cr (C R c1) Tryz.f23 10000 k [.agg [.str a0,.str a1,.str a2,.ro 129 a3 true,.bool a4,.str a5,.bool V,.str W,.bool X,.str a9,.bool f,.str j,.ro 129 a12 true,.ro 9 m true,.bool u,.str z,.int .i64 A,.int .i64 M,.int .i64 N,.int .i64 O,.int .i64 a20,.ro 32 a21 true],.str U] κ = bR.e c1 a0 a1 a2 a3 a4 a5 V W X a9 f j a12 m u z A M N O a20 a21 U (q4 (G R c1 κ k)) (q8 (G R c1 κ k)) (q9 (G R c1 κ k)) (yS (G R c1 κ k)) (EF (G R c1 κ k)) (DX (G R c1 κ k)) (K0 κ) (K1 κ):=by kernel_rfl
theorem F6 (κ : KT R):∀ (f:Nat),(q8 (G R c1 κ f)=L8 c1 (K0 κ) (K1 κ) f)/\(q9 (G R c1 κ f)=L9 c1 (K0 κ) (K1 κ) f)/\(yS (G R c1 κ f)=sO c1 (K0 κ) (K1 κ) f)/\(EF (G R c1 κ f)=zk c1 (K0 κ) (K1 κ) f)/\(DX (G R c1 κ f)=AL c1 (K0 κ) (K1 κ) f)
 | 0=>⟨rfl,rfl,rfl,rfl,rfl⟩
 | f+1=>by
  obtain ⟨b5,b',ca,cl,b4⟩:=F6 κ f
  refine ⟨?_,?_,?_,?_,?_⟩
  ·funext x0 x1 x2 x3 x4 x5 x6 x7 x8 x9 j m u z A M N O U V W X Y ad ae ap ar ax a1 a6 a7 a8 bb be bk bs bx bP bS bV b0 b1 b2 b3
   show S R c1 κ (G R c1 κ f) 8 _=_
   rw [k8,ca]
   rfl
  ·funext x0 x1 x2 x3 x4 x5 x6 x7 x8 x9 j m u z A M N O U V W X Y ad ae ap ar ax a1 a6 a7 a8 bb be bk bs bx bP bS bV b0 b1 b2 b3
   show S R c1 κ (G R c1 κ f) 9 _=_
   rw [k9,b5]
   rfl
  ·funext x0 x1 x2 x3 x4 x5 x6 x7 x8 x9 j m u z A M N O U V W X Y ad ae ap ar ax a1 a6 a7 a8 bb be bk bs bx bP bS bV b0 b1 b2 b3 cp
   show S R c1 κ (G R c1 κ f) 14 _=_
   rw [Gt,cl,b4]
   rfl
  ·funext x0 x1 x2 x3 x4 x5 x6 x7 x8 x9 j m u z A M N O U V W X Y ad ae ap ar ax a1 a6 a7 a8 bb be bk bs bx bP bS bV b0 b1 b2 b3 cp
   show S R c1 κ (G R c1 κ f) 18 _=_
   rw [Hr,b4]
   rfl
  ·funext x0 x1 x2 x3 x4 x5 x6 x7 x8 x9 j m u z A M N O U V W X Y ad ae ap ar ax a1 a6 a7 a8 bb be bk bs bx bP bS bV b0 b1 b2
   show S R c1 κ (G R c1 κ f) 20 _=_
   rw [Hs,b']
   rfl
theorem g8 (κ : KT R) (f:Nat):q8 (G R c1 κ f)=L8 c1 (K0 κ) (K1 κ) f:=(F6 R c1 κ f).1
theorem g9 (κ : KT R) (f:Nat):q9 (G R c1 κ f)=L9 c1 (K0 κ) (K1 κ) f:=(F6 R c1 κ f).2.1
theorem g14 (κ : KT R) (f:Nat):yS (G R c1 κ f)=sO c1 (K0 κ) (K1 κ) f:=(F6 R c1 κ f).2.2.1
theorem g18 (κ : KT R) (f:Nat):EF (G R c1 κ f)=zk c1 (K0 κ) (K1 κ) f:=(F6 R c1 κ f).2.2.2.1
theorem g20 (κ : KT R) (f:Nat):DX (G R c1 κ f)=AL c1 (K0 κ) (K1 κ) f:=(F6 R c1 κ f).2.2.2.2
theorem g4 (κ : KT R):∀ (f:Nat),q4 (G R c1 κ f)=L4 c1 (K0 κ) (K1 κ) f
 | 0=>rfl
 | f+1=>by
  funext x0 x1 x2 x3 x4 x5 x6 x7 x8 x9 j m u z A M N O U V W X Y ad ae ap ar ax a1 a6 a7 a8 bb be bk bs bx bP bS bV b0 b1 b2
  show S R c1 κ (G R c1 κ f) 4 _=_
  rw [k4,g8 R c1 κ f]
  rfl
end
theorem ae {R:Type} (tab:bZ) (f:aq tab) (g:Nat):bM (R:=R) Tryz.prog (af bm) tab g ((C R aI).call g):=by
 refine aF fun xs κ => ?_
 show aa _ _ _ g xs κ (Γ R aI g xs κ)
 unfold Γ
 split
 ·split
  ·exact aI.aG tab f _ κ
  ·exact aa.none
 ·exact aa.none
theorem aG {R:Type} (tab:bZ) (Y:aq tab) (a0 a1 a2 a3 a4 a5 V W X a9 f j a12 m u z A M N O a20 a21 U:_) (κ : KT R):aa Tryz.prog (af bm) tab 23 [.agg [.str a0,.str a1,.str a2,.ro 129 a3 true,.bool a4,.str a5,.bool V,.str W,.bool X,.str a9,.bool f,.str j,.ro 129 a12 true,.ro 9 m true,.bool u,.str z,.int .i64 A,.int .i64 M,.int .i64 N,.int .i64 O,.int .i64 a20,.ro 32 a21 true],.str U] κ (bR a0 a1 a2 a3 a4 a5 V W X a9 f j a12 m u z A M N O a20 a21 U (K0 κ) (K1 κ)):=ah (C:=C R aI) (fn:=Tryz.f23) cz (ae tab Y) (by kernel_rfl) (by kernel_rfl) (by rw [k];rw [g4 R aI κ ag,g8 R aI κ ag,g9 R aI κ ag,g14 R aI κ ag,g18 R aI κ ag,g20 R aI κ ag];rfl)
end bR
namespace cx
abbrev K0 {R:Type} (κ : KT R):Bool->Option R:=fun f=>κ [.bool f]
section
variable (R:Type)
def Γ (g:Nat) (xs:List SV) (κ : KT R):Option R :=
 match g with
 | _=>none
def h (n:Nat):Option (List (Nat × List (Nat × Nat))) :=
 match n with
 | 4=>some [(0,[(0,0)]),(1,[(0,0)]),(5,[(0,0)])]
 | _=>none
def C:Cfg R:=⟨af bm,Γ R,fun _=>false,h,0,fun _=>false⟩
noncomputable def S:=S0 (C R) Tryz.f47 0
noncomputable def G:=G0 (C R) Tryz.f47 0
def s4:=fun x0 f j=>(⟨er 26 [(0,.ro 129 x0 false),(1,.ro 129 f true),(5,.int .i64 j)],[],eo⟩:St)
noncomputable abbrev q4 {R:Type} (J:JT R):J4 R:=fun x0 f j=>J (placeOf Tryz.f47 4) (s4 x0 f j)
theorem k4 (J:JT R) (κ : KT R) (x0 f j:_):S R κ J 4 (s4 x0 f j)=t4 (q4 J) (K0 κ) x0 f j:=by kernel_rfl
theorem k (κ : KT R) (k:Nat) (a0 a1:_):cr (C R) Tryz.f47 10000 k [.ro 129 a0 false,.ro 129 a1 true] κ = cx.e a0 a1 (q4 (G R κ k)) (K0 κ):=by kernel_rfl
theorem g4 (κ : KT R):∀ (f:Nat),q4 (G R κ f)=L4 (K0 κ) f
 | 0=>rfl
 | f+1=>by
  funext x0 j m
  show S R κ (G R κ f) 4 _=_
  rw [k4,g4 κ f]
  rfl
end
theorem ae {R:Type} (tab:bZ) (f:aq tab) (g:Nat):bM (R:=R) Tryz.prog (af bm) tab g ((C R).call g):=by
 refine aF fun xs κ => ?_
 show aa _ _ _ g xs κ (Γ R g xs κ)
 unfold Γ
 split
 ·exact aa.none
theorem aG {R:Type} (tab:bZ) (f:aq tab) (a0 a1:_) (κ : KT R):aa Tryz.prog (af bm) tab 47 [.ro 129 a0 false,.ro 129 a1 true] κ (cx a0 a1 (K0 κ)):=ah (C:=C R) (fn:=Tryz.f47) cz (ae tab f) (by kernel_rfl) (by kernel_rfl) (by rw [k];rw [g4 R κ ag];rfl)
end cx
namespace cU
abbrev K0 {R:Type} (κ : KT R):Bool->Option R:=fun f=>κ [.bool f]
section
variable (R:Type)
def Γ (g:Nat) (xs:List SV) (κ : KT R):Option R :=
 match g with
 | _=>none
def h (n:Nat):Option (List (Nat × List (Nat × Nat))) :=
 match n with
 | 4=>some [(0,[(0,0)]),(1,[(0,0)]),(5,[(0,0)])]
 | _=>none
def C:Cfg R:=⟨af bm,Γ R,fun _=>false,h,0,fun _=>false⟩
noncomputable def S:=S0 (C R) Tryz.f25 0
noncomputable def G:=G0 (C R) Tryz.f25 0
def s4:=fun x0 f j=>(⟨er 26 [(0,.ro 9 x0 false),(1,.ro 9 f true),(5,.int .i64 j)],[],eo⟩:St)
noncomputable abbrev q4 {R:Type} (J:JT R):J4 R:=fun x0 f j=>J (placeOf Tryz.f25 4) (s4 x0 f j)
theorem k4 (J:JT R) (κ : KT R) (x0 f j:_):S R κ J 4 (s4 x0 f j)=t4 (q4 J) (K0 κ) x0 f j:=by kernel_rfl
theorem k (κ : KT R) (k:Nat) (a0 a1:_):cr (C R) Tryz.f25 10000 k [.ro 9 a0 false,.ro 9 a1 true] κ = cU.e a0 a1 (q4 (G R κ k)) (K0 κ):=by kernel_rfl
theorem g4 (κ : KT R):∀ (f:Nat),q4 (G R κ f)=L4 (K0 κ) f
 | 0=>rfl
 | f+1=>by
  funext x0 j m
  show S R κ (G R κ f) 4 _=_
  rw [k4,g4 κ f]
  rfl
end
theorem ae {R:Type} (tab:bZ) (f:aq tab) (g:Nat):bM (R:=R) Tryz.prog (af bm) tab g ((C R).call g):=by
 refine aF fun xs κ => ?_
 show aa _ _ _ g xs κ (Γ R g xs κ)
 unfold Γ
 split
 ·exact aa.none
theorem aG {R:Type} (tab:bZ) (f:aq tab) (a0 a1:_) (κ : KT R):aa Tryz.prog (af bm) tab 25 [.ro 9 a0 false,.ro 9 a1 true] κ (cU a0 a1 (K0 κ)):=ah (C:=C R) (fn:=Tryz.f25) cz (ae tab f) (by kernel_rfl) (by kernel_rfl) (by rw [k];rw [g4 R κ ag];rfl)
end cU
namespace bz
abbrev K0 {R:Type} (κ : KT R):Bool->Option R:=fun f=>κ [.bool f]
section
variable (R:Type) (c1:cx.F R) (c2:cU.F R) (c3:bz.F R)
def Γ (g:Nat) (xs:List SV) (κ : KT R):Option R :=
 match g with
 | 13=>(match xs with
  | [.agg [.str a0,.str a1,.str a2,.ro 129 a3 false,.bool a4,.str a5,.bool a6,.str a7,.bool a8,.str a9,.bool a10,.str a11,.ro 129 a12 false,.ro 9 a13 false,.bool a14,.str a15,.int .i64 a16,.int .i64 a17,.int .i64 a18,.int .i64 a19,.int .i64 a20,.ro 32 a21 false],.agg [.str a22,.str a23,.str a24,.ro 129 a25 true,.bool a26,.str a27,.bool a28,.str a29,.bool a30,.str a31,.bool a32,.str a33,.ro 129 a34 true,.ro 9 a35 true,.bool a36,.str a37,.int .i64 a38,.int .i64 a39,.int .i64 a40,.int .i64 a41,.int .i64 a42,.ro 32 a43 true]]=>c3 a0 a1 a2 a3 a4 a5 a6 a7 a8 a9 a10 a11 a12 a13 a14 a15 a16 a17 a18 a19 a20 a21 a22 a23 a24 a25 a26 a27 a28 a29 a30 a31 a32 a33 a34 a35 a36 a37 a38 a39 a40 a41 a42 a43 (K0 κ)
  | _=>none)
 | 25=>(match xs with
  | [.ro 9 a0 false,.ro 9 a1 true]=>c2 a0 a1 (cU.K0 κ)
  | _=>none)
 | 47=>(match xs with
  | [.ro 129 a0 false,.ro 129 a1 true]=>c1 a0 a1 (cx.K0 κ)
  | _=>none)
 | _=>none
def h (n:Nat):Option (List (Nat × List (Nat × Nat))) :=
 match n with
 | 6=>some [(2,[(0,0)]),(3,[(0,0)]),(5,[(0,0)])]
 | _=>none
def C:Cfg R:=⟨af bm,Γ R c1 c2 c3,fun _=>false,h,0,fun _=>false⟩
noncomputable def S:=S0 (C R c1 c2 c3) Tryz.f13 0
noncomputable def G:=G0 (C R c1 c2 c3) Tryz.f13 0
def s6:=fun x0 x1 x2 x3 x4 x5 x6 x7 x8 x9 f j m u z A M N O U V W X Y ad ae ap ar ax a1 a6 a7 a8 bb be bk bs bx bP bS bV b0 b1 b2 b3=>(⟨er 133 [(2,.ptr 255 0),(3,.ptr 319 0),(5,.int .i64 x0)],[(255,.var 32 [.str x1,.str x2,.str x3,.ro 129 x4 false,.bool x5,.str x6,.bool x7,.str x8,.bool x9,.str f,.bool j,.str m,.ro 129 u false,.ro 9 z false,.bool A,.str M,.int .i64 N,.int .i64 O,.int .i64 U,.int .i64 V,.int .i64 W,.ro 32 X false]),(319,.var 32 [.str Y,.str ad,.str ae,.ro 129 ap true,.bool ar,.str ax,.bool a1,.str a6,.bool a7,.str a8,.bool bb,.str be,.ro 129 bk true,.ro 9 bs true,.bool bx,.str bP,.int .i64 bS,.int .i64 bV,.int .i64 b0,.int .i64 b1,.int .i64 b2,.ro 32 b3 true])],eo⟩:St)
noncomputable abbrev q6 {R:Type} (J:JT R):J6 R:=fun x0 x1 x2 x3 x4 x5 x6 x7 x8 x9 f j m u z A M N O U V W X Y ad ae ap ar ax a1 a6 a7 a8 bb be bk bs bx bP bS bV b0 b1 b2 b3=>J (placeOf Tryz.f13 6) (s6 x0 x1 x2 x3 x4 x5 x6 x7 x8 x9 f j m u z A M N O U V W X Y ad ae ap ar ax a1 a6 a7 a8 bb be bk bs bx bP bS bV b0 b1 b2 b3)
theorem k6 (J:JT R) (κ : KT R) (x0 x1 x2 x3 x4 x5 x6 x7 x8 x9 f j m u z A M N O U V W X Y ad ae ap ar ax a1 a6 a7 a8 bb be bk bs bx bP bS bV b0 b1 b2 b3:_):S R c1 c2 c3 κ J 6 (s6 x0 x1 x2 x3 x4 x5 x6 x7 x8 x9 f j m u z A M N O U V W X Y ad ae ap ar ax a1 a6 a7 a8 bb be bk bs bx bP bS bV b0 b1 b2 b3)=t6 c3 (q6 J) (K0 κ) x0 x1 x2 x3 x4 x5 x6 x7 x8 x9 f j m u z A M N O U V W X Y ad ae ap ar ax a1 a6 a7 a8 bb be bk bs bx bP bS bV b0 b1 b2 b3:=by kernel_rfl
theorem k (κ : KT R) (k:Nat) (a0 a1 a2 a3 a4 a5 a6 a7 a8 a9 f j a12 m u z A M N O a20 a21 U V a24 W X Y a28 ad ae a31 ap ar ax bb be a37 bk bs a40 bx bP bS:_):cr (C R c1 c2 c3) Tryz.f13 10000 k [.agg [.str a0,.str a1,.str a2,.ro 129 a3 false,.bool a4,.str a5,.bool a6,.str a7,.bool a8,.str a9,.bool f,.str j,.ro 129 a12 false,.ro 9 m false,.bool u,.str z,.int .i64 A,.int .i64 M,.int .i64 N,.int .i64 O,.int .i64 a20,.ro 32 a21 false],.agg [.str U,.str V,.str a24,.ro 129 W true,.bool X,.str Y,.bool a28,.str ad,.bool ae,.str a31,.bool ap,.str ar,.ro 129 ax true,.ro 9 bb true,.bool be,.str a37,.int .i64 bk,.int .i64 bs,.int .i64 a40,.int .i64 bx,.int .i64 bP,.ro 32 bS true]] κ = bz.e c1 c2 c3 a0 a1 a2 a3 a4 a5 a6 a7 a8 a9 f j a12 m u z A M N O a20 a21 U V a24 W X Y a28 ad ae a31 ap ar ax bb be a37 bk bs a40 bx bP bS (q6 (G R c1 c2 c3 κ k)) (K0 κ):=by kernel_rfl
theorem g6 (κ : KT R):∀ (f:Nat),q6 (G R c1 c2 c3 κ f)=L6 c1 c2 c3 (K0 κ) f
 | 0=>rfl
 | f+1=>by
  funext x0 x1 x2 x3 x4 x5 x6 x7 x8 x9 j m u z A M N O U V W X Y ad ae ap ar ax a1 a6 a7 a8 bb be bk bs bx bP bS bV b0 b1 b2 b3 b4
  show S R c1 c2 c3 κ (G R c1 c2 c3 κ f) 6 _=_
  rw [k6,g6 κ f]
  rfl
end
theorem ae {R:Type} (tab:bZ) (ht:aq tab) (n:Nat) (ih:∀ (a0 a1 a2 a3 a4 a5 a6 a7 a8 a9 f j a12 m u z A M N O a20 a21 U V a24 W X Y a28 ad ap a31 ar ax bb be bk a37 bs bx a40 bP bS bV:_) (κ : KT R),aa Tryz.prog (af bm) tab 13 [.agg [.str a0,.str a1,.str a2,.ro 129 a3 false,.bool a4,.str a5,.bool a6,.str a7,.bool a8,.str a9,.bool f,.str j,.ro 129 a12 false,.ro 9 m false,.bool u,.str z,.int .i64 A,.int .i64 M,.int .i64 N,.int .i64 O,.int .i64 a20,.ro 32 a21 false],.agg [.str U,.str V,.str a24,.ro 129 W true,.bool X,.str Y,.bool a28,.str ad,.bool ap,.str a31,.bool ar,.str ax,.ro 129 bb true,.ro 9 be true,.bool bk,.str a37,.int .i64 bs,.int .i64 bx,.int .i64 a40,.int .i64 bP,.int .i64 bS,.ro 32 bV true]] κ (bz.R n a0 a1 a2 a3 a4 a5 a6 a7 a8 a9 f j a12 m u z A M N O a20 a21 U V a24 W X Y a28 ad ap a31 ar ax bb be bk a37 bs bx a40 bP bS bV (K0 κ))) (g:Nat):bM (R:=R) Tryz.prog (af bm) tab g ((C R cx cU (bz.R n)).call g):=by
 refine aF fun xs κ => ?_
 show aa _ _ _ g xs κ (Γ R cx cU (bz.R n) g xs κ)
 unfold Γ
 split
 ·split
  ·exact ih _ _ _ _ _ _ _ _ _ _ _ _ _ _ _ _ _ _ _ _ _ _ _ _ _ _ _ _ _ _ _ _ _ _ _ _ _ _ _ _ _ _ _ _ κ
  ·exact aa.none
 ·split
  ·exact cU.aG tab ht _ _ κ
  ·exact aa.none
 ·split
  ·exact cx.aG tab ht _ _ κ
  ·exact aa.none
 ·exact aa.none
theorem eO {R:Type} (tab:bZ) (ht:aq tab):∀ (n:Nat) (a0 a1 a2 a3 a4 a5 a6 a7 a8 a9 f j a12 m u z A M N O a20 a21 U V a24 W X Y a28 ad ap a31 ar ax bb be bk a37 bs bx a40 bP bS bV:_) (κ : KT R),aa Tryz.prog (af bm) tab 13 [.agg [.str a0,.str a1,.str a2,.ro 129 a3 false,.bool a4,.str a5,.bool a6,.str a7,.bool a8,.str a9,.bool f,.str j,.ro 129 a12 false,.ro 9 m false,.bool u,.str z,.int .i64 A,.int .i64 M,.int .i64 N,.int .i64 O,.int .i64 a20,.ro 32 a21 false],.agg [.str U,.str V,.str a24,.ro 129 W true,.bool X,.str Y,.bool a28,.str ad,.bool ap,.str a31,.bool ar,.str ax,.ro 129 bb true,.ro 9 be true,.bool bk,.str a37,.int .i64 bs,.int .i64 bx,.int .i64 a40,.int .i64 bP,.int .i64 bS,.ro 32 bV true]] κ (bz.R n a0 a1 a2 a3 a4 a5 a6 a7 a8 a9 f j a12 m u z A M N O a20 a21 U V a24 W X Y a28 ad ap a31 ar ax bb be bk a37 bs bx a40 bP bS bV (K0 κ))
 | 0,_,_,_,_,_,_,_,_,_,_,_,_,_,_,_,_,_,_,_,_,_,_,_,_,_,_,_,_,_,_,_,_,_,_,_,_,_,_,_,_,_,_,_,_,_=>aa.none
 | n+1,a0,a1,a2,a3,a4,a5,a6,a7,a8,a9,f,j,a12,m,u,z,A,M,N,O,a20,a21,U,V,a24,W,X,Y,a28,ad,ap,a31,ar,ax,bb,be,bk,a37,bs,bx,a40,bP,bS,bV,κ => ah (C:=C R cx cU (bz.R n)) (fn:=Tryz.f13) cz (ae tab ht n (eO tab ht n)) (by kernel_rfl) (by kernel_rfl) (show _=B cx cU (bz.R n) a0 a1 a2 a3 a4 a5 a6 a7 a8 a9 f j a12 m u z A M N O a20 a21 U V a24 W X Y a28 ad ap a31 ar ax bb be bk a37 bs bx a40 bP bS bV (K0 κ) by rw [k];rw [g6 R cx cU (bz.R n) κ ag];rfl)
theorem aG {R:Type} (tab:bZ) (ht:aq tab) (a0 a1 a2 a3 a4 a5 a6 a7 a8 a9 f j a12 m u z A M N O a20 a21 U V a24 W X Y a28 ad ae a31 ap ar ax bb be a37 bk bs a40 bx bP bS:_) (κ : KT R):aa Tryz.prog (af bm) tab 13 [.agg [.str a0,.str a1,.str a2,.ro 129 a3 false,.bool a4,.str a5,.bool a6,.str a7,.bool a8,.str a9,.bool f,.str j,.ro 129 a12 false,.ro 9 m false,.bool u,.str z,.int .i64 A,.int .i64 M,.int .i64 N,.int .i64 O,.int .i64 a20,.ro 32 a21 false],.agg [.str U,.str V,.str a24,.ro 129 W true,.bool X,.str Y,.bool a28,.str ad,.bool ae,.str a31,.bool ap,.str ar,.ro 129 ax true,.ro 9 bb true,.bool be,.str a37,.int .i64 bk,.int .i64 bs,.int .i64 a40,.int .i64 bx,.int .i64 bP,.ro 32 bS true]] κ (bz a0 a1 a2 a3 a4 a5 a6 a7 a8 a9 f j a12 m u z A M N O a20 a21 U V a24 W X Y a28 ad ae a31 ap ar ax bb be a37 bk bs a40 bx bP bS (K0 κ)):=eO tab ht ag a0 a1 a2 a3 a4 a5 a6 a7 a8 a9 f j a12 m u z A M N O a20 a21 U V a24 W X Y a28 ad ae a31 ap ar ax bb be a37 bk bs a40 bx bP bS κ
end bz
end Go.Proofs.Ab
