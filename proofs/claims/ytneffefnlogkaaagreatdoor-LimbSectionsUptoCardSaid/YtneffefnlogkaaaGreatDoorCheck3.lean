/- Each plain function is what a call of its Go function does, checked by the kernel (no condition but what its checks ask). -/
import Derived.Test.YtneffefnlogkaaaGreatDoorSeat
import Derived.Test.YtneffefnlogkaaaGreatDoorText
import Derived.Test.YtneffefnlogkaaaGreatDoorCheck2
set_option linter.unusedVariables false
set_option linter.unusedSimpArgs false
set_option maxRecDepth 4000
namespace Go.Proofs.Ab
open Go Go.Proofs
set_option maxRecDepth 100000
namespace aw
abbrev K0 {R:Type} (κ:KT R):Q0 R:=fun Y r1 r2 r3 r4 r5 r6 r7 r8 r9 f j m u z A M N O U V W X=>κ [.tup [.agg [.str Y,.str r1,.str r2,.ro 129 r3 true,.bool r4,.str r5,.bool r6,.str r7,.bool r8,.str r9,.bool f,.str j,.ro 129 m true,.ro 9 u true,.bool z,.str A,.int .i64 M,.int .i64 N,.int .i64 O,.int .i64 U,.int .i64 V,.ro 32 W true],.int .i64 X]]
section
variable (R:Type) (c1:bJ.F R) (c2:aU.F R) (c3:bt.F R) (c4:aZ.F R) (c5:aw.F R)
def Γ (g:Nat) (xs:List SV) (κ:KT R):Y1 R:=
 match g with
 | 50=>(match xs with
  | [.str a0,.agg [.str a1,.str a2,.str a3,.ro 129 a4 true,.bool a5,.str U,.bool V,.str W,.bool a9,.str f,.bool j,.str a12,.ro 129 m true,.ro 9 u true,.bool z,.str A,.int .i64 M,.int .i64 N,.int .i64 O,.int .i64 a20,.int .i64 a21,.nil],.int .i64 X,.bool Y,.int .i64 a24]=>c5 a0 a1 a2 a3 a4 a5 U V W a9 f j a12 m u z A M N O a20 a21 X Y a24 (K0 κ)
  | _=>none)
 | 51=>(match xs with
  | [.str a0,.agg [.int .i64 a1,.int .i64 a2],.str a3,.bool a4]=>c4 a0 a1 a2 a3 a4 (aZ.K0 κ)
  | _=>none)
 | 94=>(match xs with
  | [.str a0]=>c1 a0 (bJ.K0 κ)
  | _=>none)
 | 95=>(match xs with
  | [.str a0,.agg [.str a1,.str a2,.str a3,.ro 129 a4 true,.bool a5,.str U,.bool V,.str W,.bool a9,.str f,.bool j,.str a12,.ro 129 m true,.ro 9 u true,.bool z,.str A,.int .i64 M,.int .i64 N,.int .i64 O,.int .i64 a20,.int .i64 a21,.nil]]=>c2 a0 a1 a2 a3 a4 a5 U V W a9 f j a12 m u z A M N O a20 a21 (aU.K0 κ) (aU.K1 κ)
  | _=>none)
 | 96=>(match xs with
  | [.str a0,.int .i64 a1]=>c3 a0 a1 (bt.K0 κ)
  | _=>none)
 | _=>none
def h (n:Nat):Option (List (Nat × List (Nat × Nat))):=
 match n with
 | 2=>some [(0,[(0,0)]),(2,[(0,0)]),(3,[(0,0)]),(4,[(0,0)]),(6,[(0,0)]),(10,[(0,0)]),(12,[(0,0)])]
 | 4=>some [(0,[(0,0)]),(2,[(0,0)]),(3,[(0,0)]),(4,[(0,0)]),(6,[(0,0)]),(10,[(0,0)]),(12,[(0,0)])]
 | 5=>some [(4,[(0,0)]),(6,[(3,131),(3,1),(12,131),(12,1),(13,11),(13,1),(21,34),(21,1)]),(10,[(0,0)])]
 | 7=>some [(0,[(0,0)]),(2,[(0,0)]),(3,[(0,0)]),(4,[(0,0)]),(6,[(0,0)]),(10,[(0,0)]),(12,[(0,0)]),(13,[(0,31)])]
 | 11=>some [(4,[(0,0)]),(6,[(3,131),(3,1),(12,131),(12,1),(13,11),(13,1),(21,34),(21,1)]),(10,[(0,0)])]
 | 18=>some [(0,[(0,0)]),(2,[(0,0)]),(4,[(0,0)]),(6,[(0,0)]),(10,[(0,0)]),(13,[(0,0)]),(14,[(0,0)])]
 | 20=>some [(6,[(3,131),(3,1),(12,131),(12,1),(13,11),(13,1),(21,34),(21,1)]),(10,[(0,0)]),(16,[(0,0)])]
 | 22=>some [(0,[(0,0)]),(2,[(0,0)]),(4,[(0,0)]),(6,[(21,34)]),(10,[(0,0)]),(13,[(0,0)]),(17,[(0,0)])]
 | 27=>some [(4,[(0,0)]),(6,[(3,131),(3,1),(12,131),(12,1),(13,11),(13,1),(21,34),(21,1)]),(10,[(0,0)])]
 | _=>none
def C:Cfg R:=⟨ag br,Γ R c1 c2 c3 c4 c5,fun g=>Nat.beq g 50,h,0,fun _=>false⟩
noncomputable def S:=S0 (C R c1 c2 c3 c4 c5) Tryz.f50 0
noncomputable def G:=G0 (C R c1 c2 c3 c4 c5) Tryz.f50 0
def s2:=fun x0 x1 x2 x3 x4 x5 x6 x7 x8 x9 f j m u z A M N O U V W X Y ad ae ap ar ax a1 a6 a7 a8 bb be bk bs bx bP bS bV b0 b1 b2=>(⟨eA 149 [(0,.str x0),(2,.int .i64 x1),(3,.bool x2),(4,.int .i64 x3),(6,.ptr 511 0),(10,.ptr 767 0),(12,.bool x4)],[(511,.var 32 [.str x5,.str x6,.str x7,.ro 129 x8 true,.bool x9,.str f,.bool j,.str m,.bool u,.str z,.bool A,.str M,.ro 129 N true,.ro 9 O true,.bool U,.str V,.int .i64 W,.int .i64 X,.int .i64 Y,.int .i64 ad,.int .i64 ae,.nil]),(767,.var 32 [.str ap,.str ar,.str ax,.nil,.bool a1,.str a6,.bool a7,.str a8,.bool bb,.str be,.bool bk,.str bs,.nil,.nil,.bool bx,.str bP,.int .i64 bS,.int .i64 bV,.int .i64 b0,.int .i64 b1,.int .i64 b2,.nil])],ez⟩:St)
def s4:=fun x0 x1 x2 x3 x4 x5 x6 x7 x8 x9 f j m u z A M N O U V W X Y ad ae ap ar ax a1 a6 a7 a8 bb be bk bs bx bP bS bV b0 b1 b2=>(⟨eA 149 [(0,.str x0),(2,.int .i64 x1),(3,.bool x2),(4,.int .i64 x3),(6,.ptr 511 0),(10,.ptr 767 0),(12,.bool x4)],[(511,.var 32 [.str x5,.str x6,.str x7,.ro 129 x8 true,.bool x9,.str f,.bool j,.str m,.bool u,.str z,.bool A,.str M,.ro 129 N true,.ro 9 O true,.bool U,.str V,.int .i64 W,.int .i64 X,.int .i64 Y,.int .i64 ad,.int .i64 ae,.nil]),(767,.var 32 [.str ap,.str ar,.str ax,.nil,.bool a1,.str a6,.bool a7,.str a8,.bool bb,.str be,.bool bk,.str bs,.nil,.nil,.bool bx,.str bP,.int .i64 bS,.int .i64 bV,.int .i64 b0,.int .i64 b1,.int .i64 b2,.nil])],ez⟩:St)
def s5:=fun x0 x1 x2 x3 x4 x5 x6 x7 x8 x9 f j m u z A M N O U V W X Y ad ae ap ar ax a1 a6 a7 a8 bb be bk bs bx bP bS bV=>(⟨eA 149 [(4,.int .i64 x0),(6,.ptr 511 0),(10,.ptr 767 0)],[(511,.var 32 [.str x1,.str x2,.str x3,.ro 129 x4 true,.bool x5,.str x6,.bool x7,.str x8,.bool x9,.str f,.bool j,.str m,.ro 129 u true,.ro 9 z true,.bool A,.str M,.int .i64 N,.int .i64 O,.int .i64 U,.int .i64 V,.int .i64 W,.ro 32 X true]),(767,.var 32 [.str Y,.str ad,.str ae,.nil,.bool ap,.str ar,.bool ax,.str a1,.bool a6,.str a7,.bool a8,.str bb,.nil,.nil,.bool be,.str bk,.int .i64 bs,.int .i64 bx,.int .i64 bP,.int .i64 bS,.int .i64 bV,.nil])],ez⟩:St)
def s7:=fun x0 x1 x2 x3 x4 x5 x6 x7 x8 x9 f j m u z A M N O U V W X Y ad ae ap ar ax a1 a6 a7 a8 bb be bk bs bx bP bS bV b0 b1 b2 b3=>(⟨eA 149 [(0,.str x0),(2,.int .i64 x1),(3,.bool x2),(4,.int .i64 x3),(6,.ptr 511 0),(10,.ptr 767 0),(12,.bool x4),(13,.own 896)],[(511,.var 32 [.str x5,.str x6,.str x7,.ro 129 x8 true,.bool x9,.str f,.bool j,.str m,.bool u,.str z,.bool A,.str M,.ro 129 N true,.ro 9 O true,.bool U,.str V,.int .i64 W,.int .i64 X,.int .i64 Y,.int .i64 ad,.int .i64 ae,.nil]),(767,.var 32 [.str ap,.str ar,.str ax,.nil,.bool a1,.str a6,.bool a7,.str a8,.bool bb,.str be,.bool bk,.str bs,.nil,.nil,.bool bx,.str bP,.int .i64 bS,.int .i64 bV,.int .i64 b0,.int .i64 b1,.int .i64 b2,.nil]),(896,.row 29 b3 true)],ez⟩:St)
def F9:=fun x0 x1 x2 x3 x4 x5 x6 x7 x8 x9 f j m u z A M N O U V W X Y ad ae ap ar ax a1 a6 a7 a8 bb be bk bs bx bP bS bV=>(⟨eA 149 [(4,.int .i64 x0),(6,.ptr 511 0),(10,.ptr 767 0)],[(511,.var 32 [.str x1,.str x2,.str x3,.ro 129 x4 true,.bool x5,.str x6,.bool x7,.str x8,.bool x9,.str f,.bool j,.str m,.ro 129 u true,.ro 9 z true,.bool A,.str M,.int .i64 N,.int .i64 O,.int .i64 U,.int .i64 V,.int .i64 W,.ro 32 X true]),(767,.var 32 [.str Y,.str ad,.str ae,.nil,.bool ap,.str ar,.bool ax,.str a1,.bool a6,.str a7,.bool a8,.str bb,.nil,.nil,.bool be,.str bk,.int .i64 bs,.int .i64 bx,.int .i64 bP,.int .i64 bS,.int .i64 bV,.nil])],ez⟩:St)
def Ga:=fun x0 x1 x2 x3 x4 x5 x6 x7 x8 x9 f j m u z A M N O U V W X Y ad ae ap ar ax a1 a6 a7 a8 bb be bk bs bx bP bS bV b0 b1 b2=>(⟨eA 149 [(0,.str x0),(2,.int .i64 x1),(4,.int .i64 x2),(6,.ptr 511 0),(10,.ptr 767 0),(13,.own 896),(14,.str x3)],[(511,.var 32 [.str x4,.str x5,.str x6,.ro 129 x7 true,.bool x8,.str x9,.bool f,.str j,.bool m,.str u,.bool z,.str A,.ro 129 M true,.ro 9 N true,.bool O,.str U,.int .i64 V,.int .i64 W,.int .i64 X,.int .i64 Y,.int .i64 ad,.nil]),(767,.var 32 [.str ae,.str ap,.str ar,.nil,.bool ax,.str a1,.bool a6,.str a7,.bool a8,.str bb,.bool be,.str bk,.nil,.nil,.bool bs,.str bx,.int .i64 bP,.int .i64 bS,.int .i64 bV,.int .i64 b0,.int .i64 b1,.nil]),(896,.row 29 b2 true)],ez⟩:St)
def Ic:=fun x0 x1 x2 x3 x4 x5 x6 x7 x8 x9 f j m u z A M N O U V W X Y ad ae ap ar ax a1 a6 a7 a8 bb be bk bs bx bP bS bV=>(⟨eA 149 [(6,.ptr 511 0),(10,.ptr 767 0),(16,.int .i64 x0)],[(511,.var 32 [.str x1,.str x2,.str x3,.ro 129 x4 true,.bool x5,.str x6,.bool x7,.str x8,.bool x9,.str f,.bool j,.str m,.ro 129 u true,.ro 9 z true,.bool A,.str M,.int .i64 N,.int .i64 O,.int .i64 U,.int .i64 V,.int .i64 W,.ro 32 X true]),(767,.var 32 [.str Y,.str ad,.str ae,.nil,.bool ap,.str ar,.bool ax,.str a1,.bool a6,.str a7,.bool a8,.str bb,.nil,.nil,.bool be,.str bk,.int .i64 bs,.int .i64 bx,.int .i64 bP,.int .i64 bS,.int .i64 bV,.nil])],ez⟩:St)
def Jp:=fun x0 x1 x2 x3 x4 x5 x6 x7 x8 x9 f j m u z A M N O U V W X Y ad ae ap ar ax a1 a6 a7 a8 bb be bk bs bx bP bS bV b0 b1 b2 b3=>(⟨eA 149 [(0,.str x0),(2,.int .i64 x1),(4,.int .i64 x2),(6,.ptr 511 0),(10,.ptr 767 0),(13,.own 896),(17,.int .i64 x3)],[(511,.var 32 [.str x4,.str x5,.str x6,.ro 129 x7 true,.bool x8,.str x9,.bool f,.str j,.bool m,.str u,.bool z,.str A,.ro 129 M true,.ro 9 N true,.bool O,.str U,.int .i64 V,.int .i64 W,.int .i64 X,.int .i64 Y,.int .i64 ad,.own 469]),(469,.row 32 ae true),(767,.var 32 [.str ap,.str ar,.str ax,.nil,.bool a1,.str a6,.bool a7,.str a8,.bool bb,.str be,.bool bk,.str bs,.nil,.nil,.bool bx,.str bP,.int .i64 bS,.int .i64 bV,.int .i64 b0,.int .i64 b1,.int .i64 b2,.nil]),(896,.row 29 b3 true)],ez⟩:St)
def Jq:=fun x0 x1 x2 x3 x4 x5 x6 x7 x8 x9 f j m u z A M N O U V W X Y ad ae ap ar ax a1 a6 a7 a8 bb be bk bs bx bP bS bV=>(⟨eA 149 [(4,.int .i64 x0),(6,.ptr 511 0),(10,.ptr 767 0)],[(511,.var 32 [.str x1,.str x2,.str x3,.ro 129 x4 true,.bool x5,.str x6,.bool x7,.str x8,.bool x9,.str f,.bool j,.str m,.ro 129 u true,.ro 9 z true,.bool A,.str M,.int .i64 N,.int .i64 O,.int .i64 U,.int .i64 V,.int .i64 W,.ro 32 X true]),(767,.var 32 [.str Y,.str ad,.str ae,.nil,.bool ap,.str ar,.bool ax,.str a1,.bool a6,.str a7,.bool a8,.str bb,.nil,.nil,.bool be,.str bk,.int .i64 bs,.int .i64 bx,.int .i64 bP,.int .i64 bS,.int .i64 bV,.nil])],ez⟩:St)
noncomputable abbrev q2 {R:Type} (J:JT R):J2 R:=fun x0 x1 x2 x3 x4 x5 x6 x7 x8 x9 f j m u z A M N O U V W X Y ad ae ap ar ax a1 a6 a7 a8 bb be bk bs bx bP bS bV b0 b1 b2=>J (placeOf Tryz.f50 2) (s2 x0 x1 x2 x3 x4 x5 x6 x7 x8 x9 f j m u z A M N O U V W X Y ad ae ap ar ax a1 a6 a7 a8 bb be bk bs bx bP bS bV b0 b1 b2)
noncomputable abbrev q4 {R:Type} (J:JT R):J4 R:=fun x0 x1 x2 x3 x4 x5 x6 x7 x8 x9 f j m u z A M N O U V W X Y ad ae ap ar ax a1 a6 a7 a8 bb be bk bs bx bP bS bV b0 b1 b2=>J (placeOf Tryz.f50 4) (s4 x0 x1 x2 x3 x4 x5 x6 x7 x8 x9 f j m u z A M N O U V W X Y ad ae ap ar ax a1 a6 a7 a8 bb be bk bs bx bP bS bV b0 b1 b2)
noncomputable abbrev q5 {R:Type} (J:JT R):J5 R:=fun x0 x1 x2 x3 x4 x5 x6 x7 x8 x9 f j m u z A M N O U V W X Y ad ae ap ar ax a1 a6 a7 a8 bb be bk bs bx bP bS bV=>J (placeOf Tryz.f50 5) (s5 x0 x1 x2 x3 x4 x5 x6 x7 x8 x9 f j m u z A M N O U V W X Y ad ae ap ar ax a1 a6 a7 a8 bb be bk bs bx bP bS bV)
noncomputable abbrev q7 {R:Type} (J:JT R):J7 R:=fun x0 x1 x2 x3 x4 x5 x6 x7 x8 x9 f j m u z A M N O U V W X Y ad ae ap ar ax a1 a6 a7 a8 bb be bk bs bx bP bS bV b0 b1 b2 b3=>J (placeOf Tryz.f50 7) (s7 x0 x1 x2 x3 x4 x5 x6 x7 x8 x9 f j m u z A M N O U V W X Y ad ae ap ar ax a1 a6 a7 a8 bb be bk bs bx bP bS bV b0 b1 b2 b3)
noncomputable abbrev BO {R:Type} (J:JT R):u5 R:=fun x0 x1 x2 x3 x4 x5 x6 x7 x8 x9 f j m u z A M N O U V W X Y ad ae ap ar ax a1 a6 a7 a8 bb be bk bs bx bP bS bV=>J (placeOf Tryz.f50 11) (F9 x0 x1 x2 x3 x4 x5 x6 x7 x8 x9 f j m u z A M N O U V W X Y ad ae ap ar ax a1 a6 a7 a8 bb be bk bs bx bP bS bV)
noncomputable abbrev Bg {R:Type} (J:JT R):tK R:=fun x0 x1 x2 x3 x4 x5 x6 x7 x8 x9 f j m u z A M N O U V W X Y ad ae ap ar ax a1 a6 a7 a8 bb be bk bs bx bP bS bV b0 b1 b2=>J (placeOf Tryz.f50 18) (Ga x0 x1 x2 x3 x4 x5 x6 x7 x8 x9 f j m u z A M N O U V W X Y ad ae ap ar ax a1 a6 a7 a8 bb be bk bs bx bP bS bV b0 b1 b2)
noncomputable abbrev Fe {R:Type} (J:JT R):Ao R:=fun x0 x1 x2 x3 x4 x5 x6 x7 x8 x9 f j m u z A M N O U V W X Y ad ae ap ar ax a1 a6 a7 a8 bb be bk bs bx bP bS bV=>J (placeOf Tryz.f50 20) (Ic x0 x1 x2 x3 x4 x5 x6 x7 x8 x9 f j m u z A M N O U V W X Y ad ae ap ar ax a1 a6 a7 a8 bb be bk bs bx bP bS bV)
noncomputable abbrev Ip {R:Type} (J:JT R):Hn R:=fun x0 x1 x2 x3 x4 x5 x6 x7 x8 x9 f j m u z A M N O U V W X Y ad ae ap ar ax a1 a6 a7 a8 bb be bk bs bx bP bS bV b0 b1 b2 b3=>J (placeOf Tryz.f50 22) (Jp x0 x1 x2 x3 x4 x5 x6 x7 x8 x9 f j m u z A M N O U V W X Y ad ae ap ar ax a1 a6 a7 a8 bb be bk bs bx bP bS bV b0 b1 b2 b3)
noncomputable abbrev I6 {R:Type} (J:JT R):HA R:=fun x0 x1 x2 x3 x4 x5 x6 x7 x8 x9 f j m u z A M N O U V W X Y ad ae ap ar ax a1 a6 a7 a8 bb be bk bs bx bP bS bV=>J (placeOf Tryz.f50 27) (Jq x0 x1 x2 x3 x4 x5 x6 x7 x8 x9 f j m u z A M N O U V W X Y ad ae ap ar ax a1 a6 a7 a8 bb be bk bs bx bP bS bV)
theorem k2 (J:JT R) (κ:KT R) (x0 x1 x2 x3 x4 x5 x6 x7 x8 x9 f j m u z A M N O U V W X Y ad ae ap ar ax a1 a6 a7 a8 bb be bk bs bx bP bS bV b0 b1 b2:_):S R c1 c2 c3 c4 c5 κ J 2 (s2 x0 x1 x2 x3 x4 x5 x6 x7 x8 x9 f j m u z A M N O U V W X Y ad ae ap ar ax a1 a6 a7 a8 bb be bk bs bx bP bS bV b0 b1 b2)=t2 c1 (q4 J) x0 x1 x2 x3 x4 x5 x6 x7 x8 x9 f j m u z A M N O U V W X Y ad ae ap ar ax a1 a6 a7 a8 bb be bk bs bx bP bS bV b0 b1 b2:=by kernel_rfl
theorem k4 (J:JT R) (κ:KT R) (x0 x1 x2 x3 x4 x5 x6 x7 x8 x9 f j m u z A M N O U V W X Y ad ae ap ar ax a1 a6 a7 a8 bb be bk bs bx bP bS bV b0 b1 b2:_):S R c1 c2 c3 c4 c5 κ J 4 (s4 x0 x1 x2 x3 x4 x5 x6 x7 x8 x9 f j m u z A M N O U V W X Y ad ae ap ar ax a1 a6 a7 a8 bb be bk bs bx bP bS bV b0 b1 b2)=t4 c2 (q5 J) (q7 J) x0 x1 x2 x3 x4 x5 x6 x7 x8 x9 f j m u z A M N O U V W X Y ad ae ap ar ax a1 a6 a7 a8 bb be bk bs bx bP bS bV b0 b1 b2:=by kernel_rfl
theorem k5 (J:JT R) (κ:KT R) (x0 x1 x2 x3 x4 x5 x6 x7 x8 x9 f j m u z A M N O U V W X Y ad ae ap ar ax a1 a6 a7 a8 bb be bk bs bx bP bS bV:_):S R c1 c2 c3 c4 c5 κ J 5 (s5 x0 x1 x2 x3 x4 x5 x6 x7 x8 x9 f j m u z A M N O U V W X Y ad ae ap ar ax a1 a6 a7 a8 bb be bk bs bx bP bS bV)=t5 (K0 κ) x0 x1 x2 x3 x4 x5 x6 x7 x8 x9 f j m u z A M N O U V W X Y ad ae ap ar ax a1 a6 a7 a8 bb be bk bs bx bP bS bV:=by kernel_rfl
theorem k7 (J:JT R) (κ:KT R) (x0 x1 x2 x3 x4 x5 x6 x7 x8 x9 f j m u z A M N O U V W X Y ad ae ap ar ax a1 a6 a7 a8 bb be bk bs bx bP bS bV b0 b1 b2 b3:_):S R c1 c2 c3 c4 c5 κ J 7 (s7 x0 x1 x2 x3 x4 x5 x6 x7 x8 x9 f j m u z A M N O U V W X Y ad ae ap ar ax a1 a6 a7 a8 bb be bk bs bx bP bS bV b0 b1 b2 b3)=t7 c1 c3 (BO J) (Bg J) (Ip J) x0 x1 x2 x3 x4 x5 x6 x7 x8 x9 f j m u z A M N O U V W X Y ad ae ap ar ax a1 a6 a7 a8 bb be bk bs bx bP bS bV b0 b1 b2 b3:=by kernel_rfl
theorem HM (J:JT R) (κ:KT R) (x0 x1 x2 x3 x4 x5 x6 x7 x8 x9 f j m u z A M N O U V W X Y ad ae ap ar ax a1 a6 a7 a8 bb be bk bs bx bP bS bV:_):S R c1 c2 c3 c4 c5 κ J 11 (F9 x0 x1 x2 x3 x4 x5 x6 x7 x8 x9 f j m u z A M N O U V W X Y ad ae ap ar ax a1 a6 a7 a8 bb be bk bs bx bP bS bV)=t11 (K0 κ) x0 x1 x2 x3 x4 x5 x6 x7 x8 x9 f j m u z A M N O U V W X Y ad ae ap ar ax a1 a6 a7 a8 bb be bk bs bx bP bS bV:=by kernel_rfl
theorem HO (J:JT R) (κ:KT R) (x0 x1 x2 x3 x4 x5 x6 x7 x8 x9 f j m u z A M N O U V W X Y ad ae ap ar ax a1 a6 a7 a8 bb be bk bs bx bP bS bV b0 b1 b2:_):S R c1 c2 c3 c4 c5 κ J 18 (Ga x0 x1 x2 x3 x4 x5 x6 x7 x8 x9 f j m u z A M N O U V W X Y ad ae ap ar ax a1 a6 a7 a8 bb be bk bs bx bP bS bV b0 b1 b2)=t18 c4 c5 (Fe J) x0 x1 x2 x3 x4 x5 x6 x7 x8 x9 f j m u z A M N O U V W X Y ad ae ap ar ax a1 a6 a7 a8 bb be bk bs bx bP bS bV b0 b1 b2:=by kernel_rfl
theorem IM (J:JT R) (κ:KT R) (x0 x1 x2 x3 x4 x5 x6 x7 x8 x9 f j m u z A M N O U V W X Y ad ae ap ar ax a1 a6 a7 a8 bb be bk bs bx bP bS bV:_):S R c1 c2 c3 c4 c5 κ J 20 (Ic x0 x1 x2 x3 x4 x5 x6 x7 x8 x9 f j m u z A M N O U V W X Y ad ae ap ar ax a1 a6 a7 a8 bb be bk bs bx bP bS bV)=t20 (K0 κ) x0 x1 x2 x3 x4 x5 x6 x7 x8 x9 f j m u z A M N O U V W X Y ad ae ap ar ax a1 a6 a7 a8 bb be bk bs bx bP bS bV:=by kernel_rfl
theorem Jz (J:JT R) (κ:KT R) (x0 x1 x2 x3 x4 x5 x6 x7 x8 x9 f j m u z A M N O U V W X Y ad ae ap ar ax a1 a6 a7 a8 bb be bk bs bx bP bS bV b0 b1 b2 b3:_):S R c1 c2 c3 c4 c5 κ J 22 (Jp x0 x1 x2 x3 x4 x5 x6 x7 x8 x9 f j m u z A M N O U V W X Y ad ae ap ar ax a1 a6 a7 a8 bb be bk bs bx bP bS bV b0 b1 b2 b3)=t22 c3 c4 c5 (Ip J) (I6 J) x0 x1 x2 x3 x4 x5 x6 x7 x8 x9 f j m u z A M N O U V W X Y ad ae ap ar ax a1 a6 a7 a8 bb be bk bs bx bP bS bV b0 b1 b2 b3:=by kernel_rfl
theorem JA (J:JT R) (κ:KT R) (x0 x1 x2 x3 x4 x5 x6 x7 x8 x9 f j m u z A M N O U V W X Y ad ae ap ar ax a1 a6 a7 a8 bb be bk bs bx bP bS bV:_):S R c1 c2 c3 c4 c5 κ J 27 (Jq x0 x1 x2 x3 x4 x5 x6 x7 x8 x9 f j m u z A M N O U V W X Y ad ae ap ar ax a1 a6 a7 a8 bb be bk bs bx bP bS bV)=t27 (K0 κ) x0 x1 x2 x3 x4 x5 x6 x7 x8 x9 f j m u z A M N O U V W X Y ad ae ap ar ax a1 a6 a7 a8 bb be bk bs bx bP bS bV:=by kernel_rfl
theorem k (κ:KT R) (k:Nat) (a0 a1 a2 a3 a4 a5 W X Y a9 f j a12 m u z A M N O a20 a21 U V a24:_):cA (C R c1 c2 c3 c4 c5) Tryz.f50 10000 k [.str a0,.agg [.str a1,.str a2,.str a3,.ro 129 a4 true,.bool a5,.str W,.bool X,.str Y,.bool a9,.str f,.bool j,.str a12,.ro 129 m true,.ro 9 u true,.bool z,.str A,.int .i64 M,.int .i64 N,.int .i64 O,.int .i64 a20,.int .i64 a21,.nil],.int .i64 U,.bool V,.int .i64 a24] κ=aw.e c1 c2 c3 c4 c5 a0 a1 a2 a3 a4 a5 W X Y a9 f j a12 m u z A M N O a20 a21 U V a24 (q2 (G R c1 c2 c3 c4 c5 κ k)) (q4 (G R c1 c2 c3 c4 c5 κ k)) (q5 (G R c1 c2 c3 c4 c5 κ k)) (q7 (G R c1 c2 c3 c4 c5 κ k)) (BO (G R c1 c2 c3 c4 c5 κ k)) (Bg (G R c1 c2 c3 c4 c5 κ k)) (Fe (G R c1 c2 c3 c4 c5 κ k)) (Ip (G R c1 c2 c3 c4 c5 κ k)) (I6 (G R c1 c2 c3 c4 c5 κ k)) (K0 κ):=by kernel_rfl
theorem g5 (κ:KT R):∀ (f:Nat),q5 (G R c1 c2 c3 c4 c5 κ f)=L5 c1 c2 c3 c4 c5 (K0 κ) f
 | 0=>rfl
 | f+1=>by
  funext x0 x1 x2 x3 x4 x5 x6 x7 x8 x9 j m u z A M N O U V W X Y ad ae ap ar ax a1 a6 a7 a8 bb be bk bs bx bP bS bV b0
  show S R c1 c2 c3 c4 c5 κ (G R c1 c2 c3 c4 c5 κ f) 5 _=_
  rw [k5]
  rfl
theorem g11 (κ:KT R):∀ (f:Nat),BO (G R c1 c2 c3 c4 c5 κ f)=tL c1 c2 c3 c4 c5 (K0 κ) f
 | 0=>rfl
 | f+1=>by
  funext x0 x1 x2 x3 x4 x5 x6 x7 x8 x9 j m u z A M N O U V W X Y ad ae ap ar ax a1 a6 a7 a8 bb be bk bs bx bP bS bV b0
  show S R c1 c2 c3 c4 c5 κ (G R c1 c2 c3 c4 c5 κ f) 11 _=_
  rw [HM]
  rfl
theorem g20 (κ:KT R):∀ (f:Nat),Fe (G R c1 c2 c3 c4 c5 κ f)=BJ c1 c2 c3 c4 c5 (K0 κ) f
 | 0=>rfl
 | f+1=>by
  funext x0 x1 x2 x3 x4 x5 x6 x7 x8 x9 j m u z A M N O U V W X Y ad ae ap ar ax a1 a6 a7 a8 bb be bk bs bx bP bS bV b0
  show S R c1 c2 c3 c4 c5 κ (G R c1 c2 c3 c4 c5 κ f) 20 _=_
  rw [IM]
  rfl
theorem g18 (κ:KT R):∀ (f:Nat),Bg (G R c1 c2 c3 c4 c5 κ f)=rj c1 c2 c3 c4 c5 (K0 κ) f
 | 0=>rfl
 | f+1=>by
  funext x0 x1 x2 x3 x4 x5 x6 x7 x8 x9 j m u z A M N O U V W X Y ad ae ap ar ax a1 a6 a7 a8 bb be bk bs bx bP bS bV b0 b1 b2 b3
  show S R c1 c2 c3 c4 c5 κ (G R c1 c2 c3 c4 c5 κ f) 18 _=_
  rw [HO,g20 R c1 c2 c3 c4 c5 κ f]
  rfl
theorem Jj (κ:KT R):∀ (f:Nat),I6 (G R c1 c2 c3 c4 c5 κ f)=Ik c1 c2 c3 c4 c5 (K0 κ) f
 | 0=>rfl
 | f+1=>by
  funext x0 x1 x2 x3 x4 x5 x6 x7 x8 x9 j m u z A M N O U V W X Y ad ae ap ar ax a1 a6 a7 a8 bb be bk bs bx bP bS bV b0
  show S R c1 c2 c3 c4 c5 κ (G R c1 c2 c3 c4 c5 κ f) 27 _=_
  rw [JA]
  rfl
theorem g22 (κ:KT R):∀ (f:Nat),Ip (G R c1 c2 c3 c4 c5 κ f)=FH c1 c2 c3 c4 c5 (K0 κ) f
 | 0=>rfl
 | f+1=>by
  funext x0 x1 x2 x3 x4 x5 x6 x7 x8 x9 j m u z A M N O U V W X Y ad ae ap ar ax a1 a6 a7 a8 bb be bk bs bx bP bS bV b0 b1 b2 b3 b4
  show S R c1 c2 c3 c4 c5 κ (G R c1 c2 c3 c4 c5 κ f) 22 _=_
  rw [Jz,g22 κ f,Jj R c1 c2 c3 c4 c5 κ f]
  rfl
theorem g7 (κ:KT R):∀ (f:Nat),q7 (G R c1 c2 c3 c4 c5 κ f)=L7 c1 c2 c3 c4 c5 (K0 κ) f
 | 0=>rfl
 | f+1=>by
  funext x0 x1 x2 x3 x4 x5 x6 x7 x8 x9 j m u z A M N O U V W X Y ad ae ap ar ax a1 a6 a7 a8 bb be bk bs bx bP bS bV b0 b1 b2 b3 b4
  show S R c1 c2 c3 c4 c5 κ (G R c1 c2 c3 c4 c5 κ f) 7 _=_
  rw [k7,g11 R c1 c2 c3 c4 c5 κ f,g18 R c1 c2 c3 c4 c5 κ f,g22 R c1 c2 c3 c4 c5 κ f]
  rfl
theorem g4 (κ:KT R):∀ (f:Nat),q4 (G R c1 c2 c3 c4 c5 κ f)=L4 c1 c2 c3 c4 c5 (K0 κ) f
 | 0=>rfl
 | f+1=>by
  funext x0 x1 x2 x3 x4 x5 x6 x7 x8 x9 j m u z A M N O U V W X Y ad ae ap ar ax a1 a6 a7 a8 bb be bk bs bx bP bS bV b0 b1 b2 b3
  show S R c1 c2 c3 c4 c5 κ (G R c1 c2 c3 c4 c5 κ f) 4 _=_
  rw [k4,g5 R c1 c2 c3 c4 c5 κ f,g7 R c1 c2 c3 c4 c5 κ f]
  rfl
theorem g2 (κ:KT R):∀ (f:Nat),q2 (G R c1 c2 c3 c4 c5 κ f)=L2 c1 c2 c3 c4 c5 (K0 κ) f
 | 0=>rfl
 | f+1=>by
  funext x0 x1 x2 x3 x4 x5 x6 x7 x8 x9 j m u z A M N O U V W X Y ad ae ap ar ax a1 a6 a7 a8 bb be bk bs bx bP bS bV b0 b1 b2 b3
  show S R c1 c2 c3 c4 c5 κ (G R c1 c2 c3 c4 c5 κ f) 2 _=_
  rw [k2,g4 R c1 c2 c3 c4 c5 κ f]
  rfl
end
theorem ae {R:Type} (tab:cg) (W:ay tab) (n:Nat) (ih:∀ (a0 a1 a2 a3 a4 a5 X Y a8 a9 f j a12 m u z A M N O a20 a21 U V a24:_) (κ:KT R),aa Tryz.prog (ag br) tab 50 [.str a0,.agg [.str a1,.str a2,.str a3,.ro 129 a4 true,.bool a5,.str X,.bool Y,.str a8,.bool a9,.str f,.bool j,.str a12,.ro 129 m true,.ro 9 u true,.bool z,.str A,.int .i64 M,.int .i64 N,.int .i64 O,.int .i64 a20,.int .i64 a21,.nil],.int .i64 U,.bool V,.int .i64 a24] κ (aw.R n a0 a1 a2 a3 a4 a5 X Y a8 a9 f j a12 m u z A M N O a20 a21 U V a24 (K0 κ))) (g:Nat):bT (R:=R) Tryz.prog (ag br) tab g ((C R bJ aU bt aZ (aw.R n)).call g):=by
 refine aI fun xs κ => ?_
 show aa _ _ _ g xs κ (Γ R bJ aU bt aZ (aw.R n) g xs κ)
 unfold Γ
 split
 ·split
  ·exact ih _ _ _ _ _ _ _ _ _ _ _ _ _ _ _ _ _ _ _ _ _ _ _ _ _ κ
  ·exact aa.none
 ·split
  ·exact aZ.aF tab W _ _ _ _ _ κ
  ·exact aa.none
 ·split
  ·exact bJ.aF tab W _ κ
  ·exact aa.none
 ·split
  ·exact aU.aF tab W _ _ _ _ _ _ _ _ _ _ _ _ _ _ _ _ _ _ _ _ _ _ κ
  ·exact aa.none
 ·split
  ·exact bt.aF tab W _ _ κ
  ·exact aa.none
 ·exact aa.none
theorem fW {R:Type} (tab:cg) (ht:ay tab):∀ (n:Nat) (a0 a1 a2 a3 a4 a5 W X Y a9 f j a12 m u z A M N O a20 a21 U V a24:_) (κ:KT R),aa Tryz.prog (ag br) tab 50 [.str a0,.agg [.str a1,.str a2,.str a3,.ro 129 a4 true,.bool a5,.str W,.bool X,.str Y,.bool a9,.str f,.bool j,.str a12,.ro 129 m true,.ro 9 u true,.bool z,.str A,.int .i64 M,.int .i64 N,.int .i64 O,.int .i64 a20,.int .i64 a21,.nil],.int .i64 U,.bool V,.int .i64 a24] κ (aw.R n a0 a1 a2 a3 a4 a5 W X Y a9 f j a12 m u z A M N O a20 a21 U V a24 (K0 κ))
 | 0,_,_,_,_,_,_,_,_,_,_,_,_,_,_,_,_,_,_,_,_,_,_,_,_,_,_=>aa.none
 | n+1,a0,a1,a2,a3,a4,a5,W,X,Y,a9,f,j,a12,m,u,z,A,M,N,O,a20,a21,U,V,a24,κ=>aj (C:=C R bJ aU bt aZ (aw.R n)) (fn:=Tryz.f50) cE (ae tab ht n (fW tab ht n)) (by kernel_rfl) (by kernel_rfl) (show _=B bJ aU bt aZ (aw.R n) a0 a1 a2 a3 a4 a5 W X Y a9 f j a12 m u z A M N O a20 a21 U V a24 (K0 κ) by rw [k];rw [g2 R bJ aU bt aZ (aw.R n) κ ah,g4 R bJ aU bt aZ (aw.R n) κ ah,g5 R bJ aU bt aZ (aw.R n) κ ah,g7 R bJ aU bt aZ (aw.R n) κ ah,g11 R bJ aU bt aZ (aw.R n) κ ah,g18 R bJ aU bt aZ (aw.R n) κ ah,g20 R bJ aU bt aZ (aw.R n) κ ah,g22 R bJ aU bt aZ (aw.R n) κ ah,Jj R bJ aU bt aZ (aw.R n) κ ah];rfl)
theorem aF {R:Type} (tab:cg) (ht:ay tab) (a0 a1 a2 a3 a4 a5 W X Y a9 f j a12 m u z A M N O a20 a21 U V a24:_) (κ:KT R):aa Tryz.prog (ag br) tab 50 [.str a0,.agg [.str a1,.str a2,.str a3,.ro 129 a4 true,.bool a5,.str W,.bool X,.str Y,.bool a9,.str f,.bool j,.str a12,.ro 129 m true,.ro 9 u true,.bool z,.str A,.int .i64 M,.int .i64 N,.int .i64 O,.int .i64 a20,.int .i64 a21,.nil],.int .i64 U,.bool V,.int .i64 a24] κ (aw a0 a1 a2 a3 a4 a5 W X Y a9 f j a12 m u z A M N O a20 a21 U V a24 (K0 κ)):=fW tab ht ah a0 a1 a2 a3 a4 a5 W X Y a9 f j a12 m u z A M N O a20 a21 U V a24 κ
end aw
namespace bO
abbrev K0 {R:Type} (κ:KT R):Q0 R:=fun X Y r2 r3 r4 r5 r6 r7 r8 r9 f j m u z A M N O U V W=>κ [.agg [.str X,.str Y,.str r2,.ro 129 r3 true,.bool r4,.str r5,.bool r6,.str r7,.bool r8,.str r9,.bool f,.str j,.ro 129 m true,.ro 9 u true,.bool z,.str A,.int .i64 M,.int .i64 N,.int .i64 O,.int .i64 U,.int .i64 V,.ro 32 W true]]
section
variable (R:Type) (c1:aZ.F R) (c2:aw.F R)
def Γ (g:Nat) (xs:List SV) (κ:KT R):Y1 R:=
 match g with
 | 50=>(match xs with
  | [.str a0,.agg [.str a1,.str a2,.str a3,.ro 129 a4 true,.bool a5,.str W,.bool X,.str Y,.bool a9,.str f,.bool j,.str a12,.ro 129 m true,.ro 9 u true,.bool z,.str A,.int .i64 M,.int .i64 N,.int .i64 O,.int .i64 a20,.int .i64 a21,.nil],.int .i64 U,.bool V,.int .i64 a24]=>c2 a0 a1 a2 a3 a4 a5 W X Y a9 f j a12 m u z A M N O a20 a21 U V a24 (aw.K0 κ)
  | _=>none)
 | 51=>(match xs with
  | [.str a0,.agg [.int .i64 a1,.int .i64 a2],.str a3,.bool a4]=>c1 a0 a1 a2 a3 a4 (aZ.K0 κ)
  | _=>none)
 | _=>none
def h (n:Nat):Option (List (Nat × List (Nat × Nat))):=
 match n with
 | _=>none
def C:Cfg R:=⟨ag br,Γ R c1 c2,fun g=>Nat.beq g 50,h,0,fun _=>false⟩
theorem k (κ:KT R) (k:Nat) (a0:_):cA (C R c1 c2) Tryz.f15 10000 k [.str a0] κ=bO.e c1 c2 a0 (K0 κ):=by kernel_rfl
end
theorem ae {R:Type} (tab:cg) (f:ay tab) (g:Nat):bT (R:=R) Tryz.prog (ag br) tab g ((C R aZ aw).call g):=by
 refine aI fun xs κ => ?_
 show aa _ _ _ g xs κ (Γ R aZ aw g xs κ)
 unfold Γ
 split
 ·split
  ·exact aw.aF tab f _ _ _ _ _ _ _ _ _ _ _ _ _ _ _ _ _ _ _ _ _ _ _ _ _ κ
  ·exact aa.none
 ·split
  ·exact aZ.aF tab f _ _ _ _ _ κ
  ·exact aa.none
 ·exact aa.none
theorem aF {R:Type} (tab:cg) (f:ay tab) (a0:_) (κ:KT R):aa Tryz.prog (ag br) tab 15 [.str a0] κ (bO a0 (K0 κ)):=aj (C:=C R aZ aw) (fn:=Tryz.f15) cE (ae tab f) (by kernel_rfl) (by kernel_rfl) (by rw [k];rfl)
end bO
namespace aM
abbrev K0 {R:Type} (κ:KT R):LA->Y1 R:=fun f=>κ [.fr 9 f true]
section
variable (R:Type) (c1:aM.F R)
def Γ (g:Nat) (xs:List SV) (κ:KT R):Y1 R:=
 match g with
 | 21=>(match xs with
  | [.agg [.str a0,.str a1,.str a2,.ro 129 a3 true,.bool a4,.str a5,.bool U,.str V,.bool W,.str a9,.bool f,.str j,.ro 129 a12 true,.ro 9 m true,.bool u,.str z,.int .i64 A,.int .i64 M,.int .i64 N,.int .i64 O,.int .i64 a20,.ro 32 a21 true]]=>c1 a0 a1 a2 a3 a4 a5 U V W a9 f j a12 m u z A M N O a20 a21 (K0 κ)
  | _=>none)
 | _=>none
def h (n:Nat):Option (List (Nat × List (Nat × Nat))):=
 match n with
 | 5=>some [(1,[(0,0)]),(3,[(0,0)]),(4,[(0,0)])]
 | _=>none
def C:Cfg R:=⟨ag br,Γ R c1,fun _=>false,h,0,fun _=>false⟩
noncomputable def S:=S0 (C R c1) Tryz.f21 0
noncomputable def G:=G0 (C R c1) Tryz.f21 0
def s5:=fun x0 x1 x2 x3 x4 x5 x6 x7 x8 x9 f j m u z A M N O U V W X Y=>(⟨eA 31 [(1,.ptr 191 0),(3,.own 256),(4,.int .i64 x0)],[(191,.var 32 [.str x1,.str x2,.str x3,.ro 129 x4 true,.bool x5,.str x6,.bool x7,.str x8,.bool x9,.str f,.bool j,.str m,.ro 129 u true,.ro 9 z true,.bool A,.str M,.int .i64 N,.int .i64 O,.int .i64 U,.int .i64 V,.int .i64 W,.ro 32 X true]),(256,.row 9 Y true)],ez⟩:St)
noncomputable abbrev q5 {R:Type} (J:JT R):J5 R:=fun x0 x1 x2 x3 x4 x5 x6 x7 x8 x9 f j m u z A M N O U V W X Y=>J (placeOf Tryz.f21 5) (s5 x0 x1 x2 x3 x4 x5 x6 x7 x8 x9 f j m u z A M N O U V W X Y)
theorem k5 (J:JT R) (κ:KT R) (x0 x1 x2 x3 x4 x5 x6 x7 x8 x9 f j m u z A M N O U V W X Y:_):S R c1 κ J 5 (s5 x0 x1 x2 x3 x4 x5 x6 x7 x8 x9 f j m u z A M N O U V W X Y)=t5 c1 (q5 J) (K0 κ) x0 x1 x2 x3 x4 x5 x6 x7 x8 x9 f j m u z A M N O U V W X Y:=by kernel_rfl
theorem k (κ:KT R) (k:Nat) (a0 a1 a2 a3 a4 a5 U V W a9 f j a12 m u z A M N O a20 a21:_):cA (C R c1) Tryz.f21 10000 k [.agg [.str a0,.str a1,.str a2,.ro 129 a3 true,.bool a4,.str a5,.bool U,.str V,.bool W,.str a9,.bool f,.str j,.ro 129 a12 true,.ro 9 m true,.bool u,.str z,.int .i64 A,.int .i64 M,.int .i64 N,.int .i64 O,.int .i64 a20,.ro 32 a21 true]] κ=aM.e c1 a0 a1 a2 a3 a4 a5 U V W a9 f j a12 m u z A M N O a20 a21 (q5 (G R c1 κ k)) (K0 κ):=by kernel_rfl
theorem g5 (κ:KT R):∀ (f:Nat),q5 (G R c1 κ f)=L5 c1 (K0 κ) f
 | 0=>rfl
 | f+1=>by
  funext x0 x1 x2 x3 x4 x5 x6 x7 x8 x9 j m u z A M N O U V W X Y ad
  show S R c1 κ (G R c1 κ f) 5 _=_
  rw [k5,g5 κ f]
  rfl
end
theorem ae {R:Type} (tab:cg) (Y:ay tab) (n:Nat) (X:∀ (a0 a1 a2 a3 a4 a5 U V W a9 f j a12 m u z A M N O a20 a21:_) (κ:KT R),aa Tryz.prog (ag br) tab 21 [.agg [.str a0,.str a1,.str a2,.ro 129 a3 true,.bool a4,.str a5,.bool U,.str V,.bool W,.str a9,.bool f,.str j,.ro 129 a12 true,.ro 9 m true,.bool u,.str z,.int .i64 A,.int .i64 M,.int .i64 N,.int .i64 O,.int .i64 a20,.ro 32 a21 true]] κ (aM.R n a0 a1 a2 a3 a4 a5 U V W a9 f j a12 m u z A M N O a20 a21 (K0 κ))) (g:Nat):bT (R:=R) Tryz.prog (ag br) tab g ((C R (aM.R n)).call g):=by
 refine aI fun xs κ => ?_
 show aa _ _ _ g xs κ (Γ R (aM.R n) g xs κ)
 unfold Γ
 split
 ·split
  ·exact X _ _ _ _ _ _ _ _ _ _ _ _ _ _ _ _ _ _ _ _ _ _ κ
  ·exact aa.none
 ·exact aa.none
theorem fW {R:Type} (tab:cg) (X:ay tab):∀ (n:Nat) (a0 a1 a2 a3 a4 a5 U V W a9 f j a12 m u z A M N O a20 a21:_) (κ:KT R),aa Tryz.prog (ag br) tab 21 [.agg [.str a0,.str a1,.str a2,.ro 129 a3 true,.bool a4,.str a5,.bool U,.str V,.bool W,.str a9,.bool f,.str j,.ro 129 a12 true,.ro 9 m true,.bool u,.str z,.int .i64 A,.int .i64 M,.int .i64 N,.int .i64 O,.int .i64 a20,.ro 32 a21 true]] κ (aM.R n a0 a1 a2 a3 a4 a5 U V W a9 f j a12 m u z A M N O a20 a21 (K0 κ))
 | 0,_,_,_,_,_,_,_,_,_,_,_,_,_,_,_,_,_,_,_,_,_,_,_=>aa.none
 | n+1,a0,a1,a2,a3,a4,a5,U,V,W,a9,f,j,a12,m,u,z,A,M,N,O,a20,a21,κ=>aj (C:=C R (aM.R n)) (fn:=Tryz.f21) cE (ae tab X n (fW tab X n)) (by kernel_rfl) (by kernel_rfl) (show _=B (aM.R n) a0 a1 a2 a3 a4 a5 U V W a9 f j a12 m u z A M N O a20 a21 (K0 κ) by rw [k];rw [g5 R (aM.R n) κ ah];rfl)
theorem aF {R:Type} (tab:cg) (X:ay tab) (a0 a1 a2 a3 a4 a5 U V W a9 f j a12 m u z A M N O a20 a21:_) (κ:KT R):aa Tryz.prog (ag br) tab 21 [.agg [.str a0,.str a1,.str a2,.ro 129 a3 true,.bool a4,.str a5,.bool U,.str V,.bool W,.str a9,.bool f,.str j,.ro 129 a12 true,.ro 9 m true,.bool u,.str z,.int .i64 A,.int .i64 M,.int .i64 N,.int .i64 O,.int .i64 a20,.ro 32 a21 true]] κ (aM a0 a1 a2 a3 a4 a5 U V W a9 f j a12 m u z A M N O a20 a21 (K0 κ)):=fW tab X ah a0 a1 a2 a3 a4 a5 U V W a9 f j a12 m u z A M N O a20 a21 κ
end aM
namespace cm
abbrev K0 {R:Type} (κ:KT R):Int->Y1 R:=fun f=>κ [.int .i64 f]
section
variable (R:Type)
def Γ (g:Nat) (xs:List SV) (κ:KT R):Y1 R:=
 match g with
 | _=>none
def h (n:Nat):Option (List (Nat × List (Nat × Nat))):=
 match n with
 | 3=>some [(0,[(0,0)]),(3,[(0,0)]),(6,[(0,0)]),(7,[(0,0)])]
 | _=>none
def C:Cfg R:=⟨ag br,Γ R,fun _=>false,h,0,fun _=>false⟩
noncomputable def S:=S0 (C R) Tryz.f108 0
noncomputable def G:=G0 (C R) Tryz.f108 0
def s3:=fun x0 f j m=>(⟨eA 44 [(0,.str x0),(3,.int .i64 f),(6,.int .i64 j),(7,.int .i64 m)],[],ez⟩:St)
noncomputable abbrev q3 {R:Type} (J:JT R):J3 R:=fun x0 f j m=>J (placeOf Tryz.f108 3) (s3 x0 f j m)
theorem k3 (J:JT R) (κ:KT R) (x0 f j m:_):S R κ J 3 (s3 x0 f j m)=t3 (q3 J) (K0 κ) x0 f j m:=by kernel_rfl
theorem k (κ:KT R) (k:Nat) (a0:_):cA (C R) Tryz.f108 10000 k [.str a0] κ=cm.e a0 (q3 (G R κ k)) (K0 κ):=by kernel_rfl
theorem g3 (κ:KT R):∀ (f:Nat),q3 (G R κ f)=L3 (K0 κ) f
 | 0=>rfl
 | f+1=>by
  funext x0 j m u
  show S R κ (G R κ f) 3 _=_
  rw [k3,g3 κ f]
  rfl
end
theorem ae {R:Type} (tab:cg) (f:ay tab) (g:Nat):bT (R:=R) Tryz.prog (ag br) tab g ((C R).call g):=by
 refine aI fun xs κ => ?_
 show aa _ _ _ g xs κ (Γ R g xs κ)
 unfold Γ
 split
 ·exact aa.none
theorem aF {R:Type} (tab:cg) (f:ay tab) (a0:_) (κ:KT R):aa Tryz.prog (ag br) tab 108 [.str a0] κ (cm a0 (K0 κ)):=aj (C:=C R) (fn:=Tryz.f108) cE (ae tab f) (by kernel_rfl) (by kernel_rfl) (by rw [k];rw [g3 R κ ah];rfl)
end cm
namespace bK
abbrev K0 {R:Type} (κ:KT R):Q0 R:=fun U V W X Y r5 r6 r7 r8 r9 f j m u z A M N O=>κ [.tup [.agg [.str U,.str V,.str W,.nil,.bool X,.str Y,.bool r5,.str r6,.bool r7,.str r8,.bool r9,.str f,.nil,.nil,.bool j,.str m,.int .i64 u,.int .i64 z,.int .i64 A,.int .i64 M,.int .i64 N,.nil],.bool O]]
abbrev K1 {R:Type} (κ:KT R):Q1 R:=fun Y r1 r2 r3 r4 r5 r6 r7 r8 r9 f j m u z A M N O U V W X=>κ [.tup [.agg [.str Y,.str r1,.str r2,.ro 129 r3 true,.bool r4,.str r5,.bool r6,.str r7,.bool r8,.str r9,.bool f,.str j,.ro 129 m true,.ro 9 u true,.bool z,.str A,.int .i64 M,.int .i64 N,.int .i64 O,.int .i64 U,.int .i64 V,.ro 32 W true],.bool X]]
section
variable (R:Type) (c1:an.F R) (c2:bK.F R)
def Γ (g:Nat) (xs:List SV) (κ:KT R):Y1 R:=
 match g with
 | 59=>(match xs with
  | [.vp 32 [.str a0,.str a1,.str a2,.ro 129 a3 true,.bool a4,.str a5,.bool U,.str V,.bool W,.str a9,.bool f,.str j,.ro 129 a12 true,.ro 9 m true,.bool u,.str z,.int .i64 A,.int .i64 M,.int .i64 N,.int .i64 O,.int .i64 a20,.ro 32 a21 true]]=>c1 a0 a1 a2 a3 a4 a5 U V W a9 f j a12 m u z A M N O a20 a21 (an.K0 κ)
  | _=>none)
 | 109=>(match xs with
  | [.agg [.str a0,.str a1,.str a2,.ro 129 a3 true,.bool a4,.str a5,.bool U,.str V,.bool W,.str a9,.bool f,.str j,.ro 129 a12 true,.ro 9 m true,.bool u,.str z,.int .i64 A,.int .i64 M,.int .i64 N,.int .i64 O,.int .i64 a20,.ro 32 a21 true],.bool X,.int .i64 Y]=>c2 a0 a1 a2 a3 a4 a5 U V W a9 f j a12 m u z A M N O a20 a21 X Y (K0 κ) (K1 κ)
  | _=>none)
 | _=>none
def h (n:Nat):Option (List (Nat × List (Nat × Nat))):=
 match n with
 | 3=>some [(1,[(0,0)]),(2,[(0,0)]),(3,[(0,0)]),(6,[(0,0)])]
 | _=>none
def C:Cfg R:=⟨ag br,Γ R c1 c2,fun _=>false,h,0,fun _=>false⟩
noncomputable def S:=S0 (C R c1 c2) Tryz.f109 0
noncomputable def G:=G0 (C R c1 c2) Tryz.f109 0
def s3:=fun x0 x1 x2 x3 x4 x5 x6 x7 x8 x9 f j m u z A M N O U V W X Y ad ae ap ar ax a1 a6 a7 a8 bb be bk bs bx bP bS bV b0=>(⟨eA 58 [(1,.bool x0),(2,.int .i64 x1),(3,.ptr 319 0),(6,.ptr 511 0)],[(319,.var 32 [.str x2,.str x3,.str x4,.ro 129 x5 true,.bool x6,.str x7,.bool x8,.str x9,.bool f,.str j,.bool m,.str u,.ro 129 z true,.ro 9 A true,.bool M,.str N,.int .i64 O,.int .i64 U,.int .i64 V,.int .i64 W,.int .i64 X,.ro 32 Y true]),(511,.var 32 [.str ad,.str ae,.str ap,.nil,.bool ar,.str ax,.bool a1,.str a6,.bool a7,.str a8,.bool bb,.str be,.nil,.nil,.bool bk,.str bs,.int .i64 bx,.int .i64 bP,.int .i64 bS,.int .i64 bV,.int .i64 b0,.nil])],ez⟩:St)
noncomputable abbrev q3 {R:Type} (J:JT R):J3 R:=fun x0 x1 x2 x3 x4 x5 x6 x7 x8 x9 f j m u z A M N O U V W X Y ad ae ap ar ax a1 a6 a7 a8 bb be bk bs bx bP bS bV b0=>J (placeOf Tryz.f109 3) (s3 x0 x1 x2 x3 x4 x5 x6 x7 x8 x9 f j m u z A M N O U V W X Y ad ae ap ar ax a1 a6 a7 a8 bb be bk bs bx bP bS bV b0)
theorem k3 (J:JT R) (κ:KT R) (x0 x1 x2 x3 x4 x5 x6 x7 x8 x9 f j m u z A M N O U V W X Y ad ae ap ar ax a1 a6 a7 a8 bb be bk bs bx bP bS bV b0:_):S R c1 c2 κ J 3 (s3 x0 x1 x2 x3 x4 x5 x6 x7 x8 x9 f j m u z A M N O U V W X Y ad ae ap ar ax a1 a6 a7 a8 bb be bk bs bx bP bS bV b0)=t3 (K0 κ) (K1 κ) x0 x1 x2 x3 x4 x5 x6 x7 x8 x9 f j m u z A M N O U V W X Y ad ae ap ar ax a1 a6 a7 a8 bb be bk bs bx bP bS bV b0:=by kernel_rfl
theorem k (κ:KT R) (k:Nat) (a0 a1 a2 a3 a4 a5 W X Y a9 f j a12 m u z A M N O a20 a21 U V:_):cA (C R c1 c2) Tryz.f109 10000 k [.agg [.str a0,.str a1,.str a2,.ro 129 a3 true,.bool a4,.str a5,.bool W,.str X,.bool Y,.str a9,.bool f,.str j,.ro 129 a12 true,.ro 9 m true,.bool u,.str z,.int .i64 A,.int .i64 M,.int .i64 N,.int .i64 O,.int .i64 a20,.ro 32 a21 true],.bool U,.int .i64 V] κ=bK.e c1 c2 a0 a1 a2 a3 a4 a5 W X Y a9 f j a12 m u z A M N O a20 a21 U V (q3 (G R c1 c2 κ k)) (K0 κ) (K1 κ):=by kernel_rfl
theorem g3 (κ:KT R):∀ (f:Nat),q3 (G R c1 c2 κ f)=L3 c1 c2 (K0 κ) (K1 κ) f
 | 0=>rfl
 | f+1=>by
  funext x0 x1 x2 x3 x4 x5 x6 x7 x8 x9 j m u z A M N O U V W X Y ad ae ap ar ax a1 a6 a7 a8 bb be bk bs bx bP bS bV b0 b1
  show S R c1 c2 κ (G R c1 c2 κ f) 3 _=_
  rw [k3]
  rfl
end
theorem ae {R:Type} (tab:cg) (ht:ay tab) (n:Nat) (ih:∀ (a0 a1 a2 a3 a4 a5 W X Y a9 f j a12 m u z A M N O a20 a21 U V:_) (κ:KT R),aa Tryz.prog (ag br) tab 109 [.agg [.str a0,.str a1,.str a2,.ro 129 a3 true,.bool a4,.str a5,.bool W,.str X,.bool Y,.str a9,.bool f,.str j,.ro 129 a12 true,.ro 9 m true,.bool u,.str z,.int .i64 A,.int .i64 M,.int .i64 N,.int .i64 O,.int .i64 a20,.ro 32 a21 true],.bool U,.int .i64 V] κ (bK.R n a0 a1 a2 a3 a4 a5 W X Y a9 f j a12 m u z A M N O a20 a21 U V (K0 κ) (K1 κ))) (g:Nat):bT (R:=R) Tryz.prog (ag br) tab g ((C R an (bK.R n)).call g):=by
 refine aI fun xs κ => ?_
 show aa _ _ _ g xs κ (Γ R an (bK.R n) g xs κ)
 unfold Γ
 split
 ·split
  ·exact an.aF tab ht _ _ _ _ _ _ _ _ _ _ _ _ _ _ _ _ _ _ _ _ _ _ κ
  ·exact aa.none
 ·split
  ·exact ih _ _ _ _ _ _ _ _ _ _ _ _ _ _ _ _ _ _ _ _ _ _ _ _ κ
  ·exact aa.none
 ·exact aa.none
theorem fW {R:Type} (tab:cg) (ht:ay tab):∀ (n:Nat) (a0 a1 a2 a3 a4 a5 W X Y a9 f j a12 m u z A M N O a20 a21 U V:_) (κ:KT R),aa Tryz.prog (ag br) tab 109 [.agg [.str a0,.str a1,.str a2,.ro 129 a3 true,.bool a4,.str a5,.bool W,.str X,.bool Y,.str a9,.bool f,.str j,.ro 129 a12 true,.ro 9 m true,.bool u,.str z,.int .i64 A,.int .i64 M,.int .i64 N,.int .i64 O,.int .i64 a20,.ro 32 a21 true],.bool U,.int .i64 V] κ (bK.R n a0 a1 a2 a3 a4 a5 W X Y a9 f j a12 m u z A M N O a20 a21 U V (K0 κ) (K1 κ))
 | 0,_,_,_,_,_,_,_,_,_,_,_,_,_,_,_,_,_,_,_,_,_,_,_,_,_=>aa.none
 | n+1,a0,a1,a2,a3,a4,a5,W,X,Y,a9,f,j,a12,m,u,z,A,M,N,O,a20,a21,U,V,κ=>aj (C:=C R an (bK.R n)) (fn:=Tryz.f109) cE (ae tab ht n (fW tab ht n)) (by kernel_rfl) (by kernel_rfl) (show _=B an (bK.R n) a0 a1 a2 a3 a4 a5 W X Y a9 f j a12 m u z A M N O a20 a21 U V (K0 κ) (K1 κ) by rw [k];rw [g3 R an (bK.R n) κ ah];rfl)
theorem aF {R:Type} (tab:cg) (ht:ay tab) (a0 a1 a2 a3 a4 a5 W X Y a9 f j a12 m u z A M N O a20 a21 U V:_) (κ:KT R):aa Tryz.prog (ag br) tab 109 [.agg [.str a0,.str a1,.str a2,.ro 129 a3 true,.bool a4,.str a5,.bool W,.str X,.bool Y,.str a9,.bool f,.str j,.ro 129 a12 true,.ro 9 m true,.bool u,.str z,.int .i64 A,.int .i64 M,.int .i64 N,.int .i64 O,.int .i64 a20,.ro 32 a21 true],.bool U,.int .i64 V] κ (bK a0 a1 a2 a3 a4 a5 W X Y a9 f j a12 m u z A M N O a20 a21 U V (K0 κ) (K1 κ)):=fW tab ht ah a0 a1 a2 a3 a4 a5 W X Y a9 f j a12 m u z A M N O a20 a21 U V κ
end bK
namespace dm
abbrev K0 {R:Type} (κ:KT R):T1 R:=fun U V W X Y r5 r6 r7 r8 r9 f j m u z A M N O=>κ [.tup [.agg [.str U,.str V,.str W,.nil,.bool X,.str Y,.bool r5,.str r6,.bool r7,.str r8,.bool r9,.str f,.nil,.nil,.bool j,.str m,.int .i64 u,.int .i64 z,.int .i64 A,.int .i64 M,.int .i64 N,.nil],.bool O]]
abbrev K1 {R:Type} (κ:KT R):T2 R:=fun Y r1 r2 r3 r4 r5 r6 r7 r8 r9 f j m u z A M N O U V W X=>κ [.tup [.agg [.str Y,.str r1,.str r2,.ro 129 r3 true,.bool r4,.str r5,.bool r6,.str r7,.bool r8,.str r9,.bool f,.str j,.ro 129 m true,.ro 9 u true,.bool z,.str A,.int .i64 M,.int .i64 N,.int .i64 O,.int .i64 U,.int .i64 V,.ro 32 W true],.bool X]]
section
variable (R:Type) (c1:cm.F R) (c2:bK.F R) (c3:aO.F R)
def Γ (g:Nat) (xs:List SV) (κ:KT R):Y1 R:=
 match g with
 | 108=>(match xs with
  | [.str a0]=>c1 a0 (cm.K0 κ)
  | _=>none)
 | 109=>(match xs with
  | [.agg [.str a0,.str a1,.str a2,.ro 129 a3 true,.bool a4,.str a5,.bool W,.str X,.bool Y,.str a9,.bool f,.str j,.ro 129 a12 true,.ro 9 m true,.bool u,.str z,.int .i64 A,.int .i64 M,.int .i64 N,.int .i64 O,.int .i64 a20,.ro 32 a21 true],.bool U,.int .i64 V]=>c2 a0 a1 a2 a3 a4 a5 W X Y a9 f j a12 m u z A M N O a20 a21 U V (bK.K0 κ) (bK.K1 κ)
  | _=>none)
 | 128=>(match xs with
  | [.str a0,.str a1]=>c3 a0 a1 (aO.K0 κ)
  | _=>none)
 | _=>none
def C:Cfg R:=⟨ag br,Γ R c1 c2 c3,fun _=>false,fun _=>none,0,fun _=>false⟩
def F0:SpF:=⟨107,128,ah,⟨#[46]⟩⟩
def st:=fun (a0 a1 a2 a3 a4 a5 a6 a7 a8 a9 j m a12 u z A M N O U a20 a21 f:_) (i:Y3) (x0 x1 x2 x3 x4 x5 x6 x7 x8 x9 V W X Y ad ae ap ar ax bb be bk:_)=>(⟨eA 34 [(0,.agg [.str a0,.str a1,.str a2,.ro 129 a3 true,.bool a4,.str a5,.bool a6,.str a7,.bool a8,.str a9,.bool j,.str m,.ro 129 a12 true,.ro 9 u true,.bool z,.str A,.int .i64 M,.int .i64 N,.int .i64 O,.int .i64 U,.int .i64 a20,.ro 32 a21 true]),(1,.str f),(2,.ptr 64 0),(3,.undef),(4,.ptr 65 0),(5,.ptr 66 0),(6,.ptr 67 0),(10,.str f),(11,.bool (decide (f=(⟨#[]⟩:BA)))),(12,.undef),(13,.str f),(14,.no),(31,.undef),(32,.undef),(33,.undef)],[(67,.var 4 [.bool i]),(66,.var 4 [.bool false]),(65,.var 32 [.str (⟨#[]⟩:BA),.str (⟨#[]⟩:BA),.str (⟨#[]⟩:BA),.nil,.bool false,.str (⟨#[]⟩:BA),.bool false,.str (⟨#[]⟩:BA),.bool false,.str (⟨#[]⟩:BA),.bool false,.str (⟨#[]⟩:BA),.nil,.nil,.bool false,.str (⟨#[]⟩:BA),.int .i64 0,.int .i64 0,.int .i64 0,.int .i64 0,.int .i64 0,.nil]),(64,.var 32 [.str x0,.str x1,.str x2,.ro 129 x3 true,.bool x4,.str x5,.bool x6,.str x7,.bool x8,.str x9,.bool V,.str W,.ro 129 X true,.ro 9 Y true,.bool ad,.str ae,.int .i64 ap,.int .i64 ar,.int .i64 ax,.int .i64 bb,.int .i64 be,.ro 32 bk true])],68⟩:St)
noncomputable def I:n9:=(Tryz.f57.body.bind Ig).getD default
noncomputable def Z:Code:=(Tryz.f57.body.bind Jt).getD .skip
noncomputable def Iv (κ:KT R):Exit->St->Y1 R:=fun e s1=>(w7 (Hc (C R c1 c2 c3) Tryz.f57 0 κ) fun s1=>cK (C R c1 c2 c3) Z s1 (GB (Hc (C R c1 c2 c3) Tryz.f57 0 κ))) (xx I.b e) s1
theorem kR (J:BA->St->Y1 R) (κ:KT R) (a0 a1 a2 a3 a4 a5 a6 a7 a8 a9 Y ad a12 ae ap ar ax bb be bk a20 a21 X:_) (i:Y3) (p:BA) (x0 x1 x2 x3 x4 x5 x6 x7 x8 x9 f j m u z A M N O U V W:_):Is (C R c1 c2 c3) 128 I (Iv R c1 c2 c3 κ) J p (st a0 a1 a2 a3 a4 a5 a6 a7 a8 a9 Y ad a12 ae ap ar ax bb be bk a20 a21 X i x0 x1 x2 x3 x4 x5 x6 x7 x8 x9 f j m u z A M N O U V W)=t c1 c2 c3 (K0 κ) (K1 κ) X (fun p x0 x1 x2 x3 x4 x5 x6 x7 x8 x9 f j m u z A M N O U V W=>J p (st a0 a1 a2 a3 a4 a5 a6 a7 a8 a9 Y ad a12 ae ap ar ax bb be bk a20 a21 X false x0 x1 x2 x3 x4 x5 x6 x7 x8 x9 f j m u z A M N O U V W)) p x0 x1 x2 x3 x4 x5 x6 x7 x8 x9 f j m u z A M N O U V W i:=by kernel_rfl
theorem kL (κ:KT R) (a0 a1 a2 a3 a4 a5 a6 a7 a8 a9 ae ap a12 ar ax bb be bk bs bx a20 a21 ad:_):∀ (f:Nat) (i:Y3) (p:BA) (x0 x1 x2 x3 x4 x5 x6 x7 x8 x9 m u z A M N O U V W X Y:_),Ej (C R c1 c2 c3) 128 I (Iv R c1 c2 c3 κ) f p (st a0 a1 a2 a3 a4 a5 a6 a7 a8 a9 ae ap a12 ar ax bb be bk bs bx a20 a21 ad i x0 x1 x2 x3 x4 x5 x6 x7 x8 x9 m u z A M N O U V W X Y)=L c1 c2 c3 (K0 κ) (K1 κ) ad f i p x0 x1 x2 x3 x4 x5 x6 x7 x8 x9 m u z A M N O U V W X Y
 | 0,_,_,_,_,_,_,_,_,_,_,_,_,_,_,_,_,_,_,_,_,_,_,_,_=>rfl
 | f+1,i,p,x0,x1,x2,x3,x4,x5,x6,x7,x8,x9,m,u,z,A,M,N,O,U,V,W,X,Y=>(kR R c1 c2 c3 (Ej (C R c1 c2 c3) 128 I (Iv R c1 c2 c3 κ) f) κ a0 a1 a2 a3 a4 a5 a6 a7 a8 a9 ae ap a12 ar ax bb be bk bs bx a20 a21 ad i p x0 x1 x2 x3 x4 x5 x6 x7 x8 x9 m u z A M N O U V W X Y).trans (congrArg (fun j=>t c1 c2 c3 (K0 κ) (K1 κ) ad j p x0 x1 x2 x3 x4 x5 x6 x7 x8 x9 m u z A M N O U V W X Y i) (by
  funext p x0 x1 x2 x3 x4 x5 x6 x7 x8 x9 m u z A M N O U V W X Y
  exact kL κ a0 a1 a2 a3 a4 a5 a6 a7 a8 a9 ae ap a12 ar ax bb be bk bs bx a20 a21 ad f false p x0 x1 x2 x3 x4 x5 x6 x7 x8 x9 m u z A M N O U V W X Y))
theorem k (κ:KT R) (a0 a1 a2 a3 a4 a5 V W X a9 j m a12 u z A M N O U a20 a21 f:_):Fj (C R c1 c2 c3) F0 Tryz.f57 [.agg [.str a0,.str a1,.str a2,.ro 129 a3 true,.bool a4,.str a5,.bool V,.str W,.bool X,.str a9,.bool j,.str m,.ro 129 a12 true,.ro 9 u true,.bool z,.str A,.int .i64 M,.int .i64 N,.int .i64 O,.int .i64 U,.int .i64 a20,.ro 32 a21 true],.str f] κ=(bif decide (f=(⟨#[]⟩:BA)) then (K1 κ a0 a1 a2 a3 a4 a5 V W X a9 j m a12 u z A M N O U a20 a21 true) else (bo (decide (f.size<281474976710656)) (Ej (C R c1 c2 c3) 128 I (Iv R c1 c2 c3 κ) ah f (st a0 a1 a2 a3 a4 a5 V W X a9 j m a12 u z A M N O U a20 a21 f true a0 a1 a2 a3 a4 a5 V W X a9 j m a12 u z A M N O U a20 a21)))):=by kernel_rfl
end
theorem ae {R:Type} (tab:cg) (f:ay tab) (g:Nat):bT (R:=R) Tryz.prog (ag br) tab g ((C R cm bK aO).call g):=by
 refine aI fun xs κ => ?_
 show aa _ _ _ g xs κ (Γ R cm bK aO g xs κ)
 unfold Γ
 split
 ·split
  ·exact cm.aF tab f _ κ
  ·exact aa.none
 ·split
  ·exact bK.aF tab f _ _ _ _ _ _ _ _ _ _ _ _ _ _ _ _ _ _ _ _ _ _ _ _ κ
  ·exact aa.none
 ·split
  ·exact aO.aF tab f _ _ κ
  ·exact aa.none
 ·exact aa.none
theorem aF {R:Type} (tab:cg) (Y:ay tab) (a0 a1 a2 a3 a4 a5 V W X a9 f j a12 m u z A M N O a20 a21 U:_) (κ:KT R):aa Tryz.prog (ag br) tab 57 [.agg [.str a0,.str a1,.str a2,.ro 129 a3 true,.bool a4,.str a5,.bool V,.str W,.bool X,.str a9,.bool f,.str j,.ro 129 a12 true,.ro 9 m true,.bool u,.str z,.int .i64 A,.int .i64 M,.int .i64 N,.int .i64 O,.int .i64 a20,.ro 32 a21 true],.str U] κ (dm a0 a1 a2 a3 a4 a5 V W X a9 f j a12 m u z A M N O a20 a21 U (K0 κ) (K1 κ)):=vn (C:=C R cm bK aO) (fn:=Tryz.f57) cE (ae tab Y) Ih (by kernel_rfl) (by kernel_rfl) ((k R cm bK aO κ a0 a1 a2 a3 a4 a5 V W X a9 f j a12 m u z A M N O a20 a21 U).trans (by rw [kL];rfl))
end dm
namespace ci
abbrev K0 {R:Type} (κ:KT R):Q0 R:=fun U V W X Y r5 r6 r7 r8 r9 f j m u z A M N O=>κ [.bool U,.vp 32 [.str V,.str W,.str X,.nil,.bool Y,.str r5,.bool r6,.str r7,.bool r8,.str r9,.bool f,.str j,.nil,.nil,.bool m,.str u,.int .i64 z,.int .i64 A,.int .i64 M,.int .i64 N,.int .i64 O,.nil]]
section
variable (R:Type)
def Γ (g:Nat) (xs:List SV) (κ:KT R):Y1 R:=
 match g with
 | _=>none
def h (n:Nat):Option (List (Nat × List (Nat × Nat))):=
 match n with
 | _=>none
def C:Cfg R:=⟨ag br,Γ R,fun _=>false,h,0,fun _=>false⟩
theorem k (κ:KT R) (k:Nat) (a0 a1 a2 a3 a4 a5 N O U a9 f j a12 m u z A M:_):cA (C R) Tryz.f59 10000 k [.vp 32 [.str a0,.str a1,.str a2,.nil,.bool a3,.str a4,.bool a5,.str N,.bool O,.str U,.bool a9,.str f,.nil,.nil,.bool j,.str a12,.int .i64 m,.int .i64 u,.int .i64 z,.int .i64 A,.int .i64 M,.nil]] κ=ci.e a0 a1 a2 a3 a4 a5 N O U a9 f j a12 m u z A M (K0 κ):=by kernel_rfl
end
theorem ae {R:Type} (tab:cg) (f:ay tab) (g:Nat):bT (R:=R) Tryz.prog (ag br) tab g ((C R).call g):=by
 refine aI fun xs κ => ?_
 show aa _ _ _ g xs κ (Γ R g xs κ)
 unfold Γ
 split
 ·exact aa.none
theorem aF {R:Type} (tab:cg) (V:ay tab) (a0 a1 a2 a3 a4 a5 N O U a9 f j a12 m u z A M:_) (κ:KT R):aa Tryz.prog (ag br) tab 59 [.vp 32 [.str a0,.str a1,.str a2,.nil,.bool a3,.str a4,.bool a5,.str N,.bool O,.str U,.bool a9,.str f,.nil,.nil,.bool j,.str a12,.int .i64 m,.int .i64 u,.int .i64 z,.int .i64 A,.int .i64 M,.nil]] κ (ci a0 a1 a2 a3 a4 a5 N O U a9 f j a12 m u z A M (K0 κ)):=aj (C:=C R) (fn:=Tryz.f59) cE (ae tab V) (by kernel_rfl) (by kernel_rfl) (by rw [k];rfl)
end ci
namespace dB
abbrev K0 {R:Type} (κ:KT R):BA->Y3->Y1 R:=fun f j=>κ [.tup [.str f,.bool j]]
section
variable (R:Type)
def Γ (g:Nat) (xs:List SV) (κ:KT R):Y1 R:=
 match g with
 | _=>none
def h (n:Nat):Option (List (Nat × List (Nat × Nat))):=
 match n with
 | _=>none
def C:Cfg R:=⟨ag br,Γ R,fun _=>false,h,0,fun _=>false⟩
theorem k (κ:KT R) (k:Nat) (a0 a1 a2:_):cA (C R) Tryz.f60 10000 k [.str a0,.agg [.int .i64 a1,.int .i64 a2]] κ=dB.e a0 a1 a2 (K0 κ):=by kernel_rfl
end
theorem ae {R:Type} (tab:cg) (f:ay tab) (g:Nat):bT (R:=R) Tryz.prog (ag br) tab g ((C R).call g):=by
 refine aI fun xs κ => ?_
 show aa _ _ _ g xs κ (Γ R g xs κ)
 unfold Γ
 split
 ·exact aa.none
theorem aF {R:Type} (tab:cg) (f:ay tab) (a0 a1 a2:_) (κ:KT R):aa Tryz.prog (ag br) tab 60 [.str a0,.agg [.int .i64 a1,.int .i64 a2]] κ (dB a0 a1 a2 (K0 κ)):=aj (C:=C R) (fn:=Tryz.f60) cE (ae tab f) (by kernel_rfl) (by kernel_rfl) (by rw [k];rfl)
end dB
namespace bG
abbrev K0 {R:Type} (κ:KT R):Y3->Y1 R:=fun f=>κ [.bool f]
section
variable (R:Type) (c1:bN.F R)
def Γ (g:Nat) (xs:List SV) (κ:KT R):Y1 R:=
 match g with
 | 153=>(match xs with
  | [.str a0,.str a1]=>c1 a0 a1 (bN.K0 κ)
  | _=>none)
 | _=>none
def h (n:Nat):Option (List (Nat × List (Nat × Nat))):=
 match n with
 | _=>none
def C:Cfg R:=⟨ag br,Γ R c1,fun _=>false,h,0,fun _=>false⟩
theorem k (κ:KT R) (k:Nat) (a0 a1:_):cA (C R c1) Tryz.f113 10000 k [.str a0,.str a1] κ=bG.e c1 a0 a1 (K0 κ):=by kernel_rfl
end
theorem ae {R:Type} (tab:cg) (f:ay tab) (g:Nat):bT (R:=R) Tryz.prog (ag br) tab g ((C R bN).call g):=by
 refine aI fun xs κ => ?_
 show aa _ _ _ g xs κ (Γ R bN g xs κ)
 unfold Γ
 split
 ·split
  ·exact bN.aF tab f _ _ κ
  ·exact aa.none
 ·exact aa.none
theorem aF {R:Type} (tab:cg) (f:ay tab) (a0 a1:_) (κ:KT R):aa Tryz.prog (ag br) tab 113 [.str a0,.str a1] κ (bG a0 a1 (K0 κ)):=aj (C:=C R bN) (fn:=Tryz.f113) cE (ae tab f) (by kernel_rfl) (by kernel_rfl) (by rw [k];rfl)
end bG
namespace aA
abbrev K0 {R:Type} (κ:KT R):Int->LA->Y1 R:=fun f j=>κ [.tup [.int .i64 f,.nili],.vp 157 [.nos,.fr 5 j true]]
section
variable (R:Type) (c1:bL.F R)
def Γ (g:Nat) (xs:List SV) (κ:KT R):Y1 R:=
 match g with
 | 152=>(match xs with
  | [.vp 157 [.nos,.fr 5 a0 true]]=>c1 a0 (fun f=>κ [.tup [],.vp 157 [.nos,.fr 5 f true]])
  | _=>none)
 | _=>none
def h (n:Nat):Option (List (Nat × List (Nat × Nat))):=
 match n with
 | _=>none
def C:Cfg R:=⟨ag br,Γ R c1,fun _=>false,h,0,fun _=>false⟩
theorem k (κ:KT R) (k:Nat) (a0 a1:_):cA (C R c1) Tryz.f112 10000 k [.vp 157 [.nos,.fr 5 a0 true],.str a1] κ=aA.e c1 a0 a1 (K0 κ):=by kernel_rfl
end
theorem ae {R:Type} (tab:cg) (f:ay tab) (g:Nat):bT (R:=R) Tryz.prog (ag br) tab g ((C R bL).call g):=by
 refine aI fun xs κ => ?_
 show aa _ _ _ g xs κ (Γ R bL g xs κ)
 unfold Γ
 split
 ·split
  ·exact bL.aF tab f _ κ
  ·exact aa.none
 ·exact aa.none
theorem aF {R:Type} (tab:cg) (f:ay tab) (a0 a1:_) (κ:KT R):aa Tryz.prog (ag br) tab 112 [.vp 157 [.nos,.fr 5 a0 true],.str a1] κ (aA a0 a1 (K0 κ)):=aj (C:=C R bL) (fn:=Tryz.f112) cE (ae tab f) (by kernel_rfl) (by kernel_rfl) (by rw [k];rfl)
end aA
namespace cJ
abbrev K0 {R:Type} (κ:KT R):BA->Y1 R:=fun f=>κ [.str f]
section
variable (R:Type) (c1:bA.F R) (c2:aA.F R) (c3:av.F R) (c4:cv.F R) (c5:bG.F R)
def Γ (g:Nat) (xs:List SV) (κ:KT R):Y1 R:=
 match g with
 | 110=>(match xs with
  | [.str a0]=>c1 a0 (bA.K0 κ)
  | _=>none)
 | 111=>(match xs with
  | [.str a0,.str a1]=>c4 a0 a1 (cv.K0 κ)
  | _=>none)
 | 112=>(match xs with
  | [.vp 157 [.nos,.fr 5 a0 true],.str a1]=>c2 a0 a1 (aA.K0 κ)
  | _=>none)
 | 113=>(match xs with
  | [.str a0,.str a1]=>c5 a0 a1 (bG.K0 κ)
  | _=>none)
 | 114=>(match xs with
  | [.vp 157 [.nos,.fr 5 a0 true]]=>c3 a0 (av.K0 κ)
  | _=>none)
 | _=>none
def h (n:Nat):Option (List (Nat × List (Nat × Nat))):=
 match n with
 | 3=>some [(1,[(0,0)]),(2,[(0,0)]),(7,[(1,7)]),(14,[(0,0)]),(15,[(0,0)]),(16,[(0,0)])]
 | 7=>some [(1,[(0,0)]),(2,[(0,0)]),(7,[(0,0)]),(9,[(0,0)]),(10,[(0,0)]),(14,[(0,0)]),(15,[(0,0)]),(16,[(0,0)]),(20,[(0,0)]),(21,[(0,0)]),(22,[(0,0)])]
 | _=>none
def C:Cfg R:=⟨ag br,Γ R c1 c2 c3 c4 c5,fun _=>false,h,0,fun _=>false⟩
noncomputable def S:=S0 (C R c1 c2 c3 c4 c5) Tryz.f61 0
noncomputable def G:=G0 (C R c1 c2 c3 c4 c5) Tryz.f61 0
def s3:=fun x0 f j m u z=>(⟨eA 52 [(1,.bool x0),(2,.ro 9 f false),(7,.ptr 575 0),(14,.own 960),(15,.int .i64 j),(16,.int .i64 m)],[(575,.var 157 [.nos,.own 513]),(513,.row 5 u true),(960,.row 161 z true)],ez⟩:St)
def s7:=fun x0 z A M N O U V W X f j m u=>(⟨eA 52 [(1,.bool x0),(2,.ro 9 z false),(7,.ptr 575 0),(9,.ptr 703 0),(10,.bool A),(14,.own 960),(15,.int .i64 M),(16,.int .i64 N),(20,.ro 9 O false),(21,.int .i64 U),(22,.int .i64 V)],[(575,.var 157 [.nos,.own 513]),(513,.row 5 W true),(703,.var 161 [.str X,.str f,.bool j,.bool m]),(960,.row 161 u true)],ez⟩:St)
noncomputable abbrev q3 {R:Type} (J:JT R):J3 R:=fun x0 f j m u z=>J (placeOf Tryz.f61 3) (s3 x0 f j m u z)
noncomputable abbrev q7 {R:Type} (J:JT R):J7 R:=fun x0 z A M N O U V W X f j m u=>J (placeOf Tryz.f61 7) (s7 x0 z A M N O U V W X f j m u)
theorem k3 (J:JT R) (κ:KT R) (x0 f j m u z:_):S R c1 c2 c3 c4 c5 κ J 3 (s3 x0 f j m u z)=t3 c2 c3 (q7 J) (K0 κ) x0 f j m u z:=by kernel_rfl
theorem k7 (J:JT R) (κ:KT R) (x0 z A M N O U V W X f j m u:_):S R c1 c2 c3 c4 c5 κ J 7 (s7 x0 z A M N O U V W X f j m u)=t7 c2 c4 c5 (q3 J) (q7 J) x0 z A M N O U V W X f j m u:=by kernel_rfl
theorem k (κ:KT R) (k:Nat) (a0 a1 a2:_):cA (C R c1 c2 c3 c4 c5) Tryz.f61 10000 k [.str a0,.bool a1,.ro 9 a2 false] κ=cJ.e c1 c2 c3 c4 c5 a0 a1 a2 (q3 (G R c1 c2 c3 c4 c5 κ k)) (q7 (G R c1 c2 c3 c4 c5 κ k)) (K0 κ):=by kernel_rfl
theorem IG (κ:KT R):∀ (f:Nat),(q3 (G R c1 c2 c3 c4 c5 κ f)=L3 c1 c2 c3 c4 c5 (K0 κ) f)/\(q7 (G R c1 c2 c3 c4 c5 κ f)=L7 c1 c2 c3 c4 c5 (K0 κ) f)
 | 0=>⟨rfl,rfl⟩
 | f+1=>by
  obtain ⟨m,j⟩:=IG κ f
  refine ⟨?_,?_⟩
  ·funext x0 u z A M N
   show S R c1 c2 c3 c4 c5 κ (G R c1 c2 c3 c4 c5 κ f) 3 _=_
   rw [k3,j]
   rfl
  ·funext x0 u z A M N X Y x8 x9 O U V W
   show S R c1 c2 c3 c4 c5 κ (G R c1 c2 c3 c4 c5 κ f) 7 _=_
   rw [k7,m,j]
   rfl
theorem g3 (κ:KT R) (f:Nat):q3 (G R c1 c2 c3 c4 c5 κ f)=L3 c1 c2 c3 c4 c5 (K0 κ) f:=(IG R c1 c2 c3 c4 c5 κ f).1
theorem g7 (κ:KT R) (f:Nat):q7 (G R c1 c2 c3 c4 c5 κ f)=L7 c1 c2 c3 c4 c5 (K0 κ) f:=(IG R c1 c2 c3 c4 c5 κ f).2
end
theorem ae {R:Type} (tab:cg) (f:ay tab) (g:Nat):bT (R:=R) Tryz.prog (ag br) tab g ((C R bA aA av cv bG).call g):=by
 refine aI fun xs κ => ?_
 show aa _ _ _ g xs κ (Γ R bA aA av cv bG g xs κ)
 unfold Γ
 split
 ·split
  ·exact bA.aF tab f _ κ
  ·exact aa.none
 ·split
  ·exact cv.aF tab f _ _ κ
  ·exact aa.none
 ·split
  ·exact aA.aF tab f _ _ κ
  ·exact aa.none
 ·split
  ·exact bG.aF tab f _ _ κ
  ·exact aa.none
 ·split
  ·exact av.aF tab f _ κ
  ·exact aa.none
 ·exact aa.none
theorem aF {R:Type} (tab:cg) (f:ay tab) (a0 a1 a2:_) (κ:KT R):aa Tryz.prog (ag br) tab 61 [.str a0,.bool a1,.ro 9 a2 false] κ (cJ a0 a1 a2 (K0 κ)):=aj (C:=C R bA aA av cv bG) (fn:=Tryz.f61) cE (ae tab f) (by kernel_rfl) (by kernel_rfl) (by rw [k];rw [g3 R bA aA av cv bG κ ah,g7 R bA aA av cv bG κ ah];rfl)
end cJ
namespace aW
abbrev K0 {R:Type} (κ:KT R):BA->Y3->Y1 R:=fun f j=>κ [.tup [.str f,.bool j]]
section
variable (R:Type) (c1:dm.F R) (c2:ci.F R) (c3:an.F R) (c4:dB.F R) (c5:cJ.F R)
def Γ (g:Nat) (xs:List SV) (κ:KT R):Y1 R:=
 match g with
 | 57=>(match xs with
  | [.agg [.str a0,.str a1,.str a2,.ro 129 a3 true,.bool a4,.str a5,.bool a6,.str a7,.bool a8,.str a9,.bool f,.str j,.ro 129 a12 true,.ro 9 m true,.bool u,.str z,.int .i64 A,.int .i64 M,.int .i64 N,.int .i64 O,.int .i64 a20,.ro 32 a21 true],.str ax]=>c1 a0 a1 a2 a3 a4 a5 a6 a7 a8 a9 f j a12 m u z A M N O a20 a21 ax (fun r0 r1 r2 r3 r4 r5 r6 r7 r8 r9 U V W X Y ad ae ap ar=>κ [.tup [.agg [.str r0,.str r1,.str r2,.nil,.bool r3,.str r4,.bool r5,.str r6,.bool r7,.str r8,.bool r9,.str U,.nil,.nil,.bool V,.str W,.int .i64 X,.int .i64 Y,.int .i64 ad,.int .i64 ae,.int .i64 ap,.nil],.bool ar]]) (fun r0 r1 r2 r3 r4 r5 r6 r7 r8 r9 U V W X Y ad ae ap ar bb be bk bs=>κ [.tup [.agg [.str r0,.str r1,.str r2,.ro 129 r3 true,.bool r4,.str r5,.bool r6,.str r7,.bool r8,.str r9,.bool U,.str V,.ro 129 W true,.ro 9 X true,.bool Y,.str ad,.int .i64 ae,.int .i64 ap,.int .i64 ar,.int .i64 bb,.int .i64 be,.ro 32 bk true],.bool bs]])
  | _=>none)
 | 59=>(match xs with
  | [.vp 32 [.str a0,.str a1,.str a2,.nil,.bool a3,.str a4,.bool a5,.str a6,.bool a7,.str a8,.bool a9,.str f,.nil,.nil,.bool j,.str a12,.int .i64 m,.int .i64 u,.int .i64 z,.int .i64 A,.int .i64 M,.nil]]=>c2 a0 a1 a2 a3 a4 a5 a6 a7 a8 a9 f j a12 m u z A M (ci.K0 κ)
  | [.vp 32 [.str a0,.str a1,.str a2,.ro 129 a3 true,.bool a4,.str a5,.bool a6,.str a7,.bool a8,.str a9,.bool f,.str j,.ro 129 a12 true,.ro 9 m true,.bool u,.str z,.int .i64 A,.int .i64 M,.int .i64 N,.int .i64 O,.int .i64 a20,.ro 32 a21 true]]=>c3 a0 a1 a2 a3 a4 a5 a6 a7 a8 a9 f j a12 m u z A M N O a20 a21 (an.K0 κ)
  | _=>none)
 | 60=>(match xs with
  | [.str a0,.agg [.int .i64 a1,.int .i64 a2]]=>c4 a0 a1 a2 (dB.K0 κ)
  | _=>none)
 | 61=>(match xs with
  | [.str a0,.bool a1,.ro 9 a2 false]=>c5 a0 a1 a2 (cJ.K0 κ)
  | _=>none)
 | _=>none
def h (n:Nat):Option (List (Nat × List (Nat × Nat))):=
 match n with
 | 10=>some [(0,[(0,0)]),(5,[(0,0)]),(8,[(3,131),(3,1),(12,131),(12,1),(13,11),(13,1),(21,34),(21,1)]),(10,[(3,131),(3,1),(12,131),(12,1),(13,11),(13,1),(21,34),(21,1)]),(49,[(0,0)])]
 | _=>none
def C:Cfg R:=⟨ag br,Γ R c1 c2 c3 c4 c5,fun _=>false,h,0,fun _=>false⟩
noncomputable def S:=S0 (C R c1 c2 c3 c4 c5) Tryz.f24 0
noncomputable def G:=G0 (C R c1 c2 c3 c4 c5) Tryz.f24 0
def H':=fun x0 x1 x2 x3 x4 x5 x6 x7 x8 x9 f j m u z A M N O U V W X Y ad ae ap ar ax a1 a6 a7 a8 bb be bk bs bx bP bS bV b0 b1 b2 b3 b4 b5 b' ca=>(⟨eA 108 [(0,.str x0),(5,.ptr 447 0),(8,.ptr 639 0),(10,.ptr 767 0),(49,.int .i64 x1)],[(447,.var 48 [.str x2,.int .i64 x3,.ro 9 x4 false]),(639,.var 32 [.str x5,.str x6,.str x7,.ro 129 x8 true,.bool x9,.str f,.bool j,.str m,.bool u,.str z,.bool A,.str M,.ro 129 N true,.ro 9 O true,.bool U,.str V,.int .i64 W,.int .i64 X,.int .i64 Y,.int .i64 ad,.int .i64 ae,.ro 32 ap true]),(767,.var 32 [.str ar,.str ax,.str a1,.ro 129 a6 true,.bool a7,.str a8,.bool bb,.str be,.bool bk,.str bs,.bool bx,.str bP,.ro 129 bS true,.ro 9 bV true,.bool b0,.str b1,.int .i64 b2,.int .i64 b3,.int .i64 b4,.int .i64 b5,.int .i64 b',.ro 32 ca true])],ez⟩:St)
noncomputable abbrev G6 {R:Type} (J:JT R):BU R:=fun x0 x1 x2 x3 x4 x5 x6 x7 x8 x9 f j m u z A M N O U V W X Y ad ae ap ar ax a1 a6 a7 a8 bb be bk bs bx bP bS bV b0 b1 b2 b3 b4 b5 b' ca=>J (placeOf Tryz.f24 10) (H' x0 x1 x2 x3 x4 x5 x6 x7 x8 x9 f j m u z A M N O U V W X Y ad ae ap ar ax a1 a6 a7 a8 bb be bk bs bx bP bS bV b0 b1 b2 b3 b4 b5 b' ca)
theorem II (J:JT R) (κ:KT R) (x0 x1 x2 x3 x4 x5 x6 x7 x8 x9 f j m u z A M N O U V W X Y ad ae ap ar ax a1 a6 a7 a8 bb be bk bs bx bP bS bV b0 b1 b2 b3 b4 b5 b' ca:_):S R c1 c2 c3 c4 c5 κ J 10 (H' x0 x1 x2 x3 x4 x5 x6 x7 x8 x9 f j m u z A M N O U V W X Y ad ae ap ar ax a1 a6 a7 a8 bb be bk bs bx bP bS bV b0 b1 b2 b3 b4 b5 b' ca)=t10 c4 c5 (K0 κ) x0 x1 x2 x3 x4 x5 x6 x7 x8 x9 f j m u z A M N O U V W X Y ad ae ap ar ax a1 a6 a7 a8 bb be bk bs bx bP bS bV b0 b1 b2 b3 b4 b5 b' ca:=by kernel_rfl
theorem k (κ:KT R) (k:Nat) (a0 a1 a2 a3 a4 a5 X Y a8 a9 f j a12 m u z A M N O a20 a21 U V a24 W:_):cA (C R c1 c2 c3 c4 c5) Tryz.f24 10000 k [.str a0,.agg [.str a1,.str a2,.str a3,.ro 129 a4 true,.bool a5,.str X,.bool Y,.str a8,.bool a9,.str f,.bool j,.str a12,.ro 129 m true,.ro 9 u true,.bool z,.str A,.int .i64 M,.int .i64 N,.int .i64 O,.int .i64 a20,.int .i64 a21,.ro 32 U true],.agg [.str V,.int .i64 a24,.ro 9 W false]] κ=aW.e c1 c2 c3 c4 c5 a0 a1 a2 a3 a4 a5 X Y a8 a9 f j a12 m u z A M N O a20 a21 U V a24 W (G6 (G R c1 c2 c3 c4 c5 κ k)) (K0 κ):=by kernel_rfl
theorem g10 (κ:KT R):∀ (f:Nat),G6 (G R c1 c2 c3 c4 c5 κ f)=Ap c1 c2 c3 c4 c5 (K0 κ) f
 | 0=>rfl
 | f+1=>by
  funext x0 x1 x2 x3 x4 x5 x6 x7 x8 x9 j m u z A M N O U V W X Y ad ae ap ar ax a1 a6 a7 a8 bb be bk bs bx bP bS bV b0 b1 b2 b3 b4 b5 b' ca cl
  show S R c1 c2 c3 c4 c5 κ (G R c1 c2 c3 c4 c5 κ f) 10 _=_
  rw [II]
  rfl
end
theorem ae {R:Type} (tab:cg) (f:ay tab) (g:Nat):bT (R:=R) Tryz.prog (ag br) tab g ((C R dm ci an dB cJ).call g):=by
 refine aI fun xs κ => ?_
 show aa _ _ _ g xs κ (Γ R dm ci an dB cJ g xs κ)
 unfold Γ
 split
 ·split
  ·exact dm.aF tab f _ _ _ _ _ _ _ _ _ _ _ _ _ _ _ _ _ _ _ _ _ _ _ κ
  ·exact aa.none
 ·split
  ·exact ci.aF tab f _ _ _ _ _ _ _ _ _ _ _ _ _ _ _ _ _ _ κ
  ·exact an.aF tab f _ _ _ _ _ _ _ _ _ _ _ _ _ _ _ _ _ _ _ _ _ _ κ
  ·exact aa.none
 ·split
  ·exact dB.aF tab f _ _ _ κ
  ·exact aa.none
 ·split
  ·exact cJ.aF tab f _ _ _ κ
  ·exact aa.none
 ·exact aa.none
theorem aF {R:Type} (tab:cg) (ht:ay tab) (a0 a1 a2 a3 a4 a5 X Y a8 a9 f j a12 m u z A M N O a20 a21 U V a24 W:_) (κ:KT R):aa Tryz.prog (ag br) tab 24 [.str a0,.agg [.str a1,.str a2,.str a3,.ro 129 a4 true,.bool a5,.str X,.bool Y,.str a8,.bool a9,.str f,.bool j,.str a12,.ro 129 m true,.ro 9 u true,.bool z,.str A,.int .i64 M,.int .i64 N,.int .i64 O,.int .i64 a20,.int .i64 a21,.ro 32 U true],.agg [.str V,.int .i64 a24,.ro 9 W false]] κ (aW a0 a1 a2 a3 a4 a5 X Y a8 a9 f j a12 m u z A M N O a20 a21 U V a24 W (K0 κ)):=aj (C:=C R dm ci an dB cJ) (fn:=Tryz.f24) cE (ae tab ht) (by kernel_rfl) (by kernel_rfl) (by rw [k];rw [g10 R dm ci an dB cJ κ ah];rfl)
end aW
namespace bz
abbrev K0 {R:Type} (κ:KT R):Y3->Y1 R:=fun f=>κ [.bool f]
section
variable (R:Type)
def Γ (g:Nat) (xs:List SV) (κ:KT R):Y1 R:=
 match g with
 | _=>none
def h (n:Nat):Option (List (Nat × List (Nat × Nat))):=
 match n with
 | 4=>some [(0,[(0,0)]),(1,[(0,0)]),(5,[(0,0)])]
 | _=>none
def C:Cfg R:=⟨ag br,Γ R,fun _=>false,h,0,fun _=>false⟩
noncomputable def S:=S0 (C R) Tryz.f25 0
noncomputable def G:=G0 (C R) Tryz.f25 0
def s4:=fun x0 f j=>(⟨eA 26 [(0,.ro 9 x0 false),(1,.ro 9 f true),(5,.int .i64 j)],[],ez⟩:St)
noncomputable abbrev q4 {R:Type} (J:JT R):J4 R:=fun x0 f j=>J (placeOf Tryz.f25 4) (s4 x0 f j)
theorem k4 (J:JT R) (κ:KT R) (x0 f j:_):S R κ J 4 (s4 x0 f j)=t4 (q4 J) (K0 κ) x0 f j:=by kernel_rfl
theorem k (κ:KT R) (k:Nat) (a0 a1:_):cA (C R) Tryz.f25 10000 k [.ro 9 a0 false,.ro 9 a1 true] κ=bz.e a0 a1 (q4 (G R κ k)) (K0 κ):=by kernel_rfl
theorem g4 (κ:KT R):∀ (f:Nat),q4 (G R κ f)=L4 (K0 κ) f
 | 0=>rfl
 | f+1=>by
  funext x0 j m
  show S R κ (G R κ f) 4 _=_
  rw [k4,g4 κ f]
  rfl
end
theorem ae {R:Type} (tab:cg) (f:ay tab) (g:Nat):bT (R:=R) Tryz.prog (ag br) tab g ((C R).call g):=by
 refine aI fun xs κ => ?_
 show aa _ _ _ g xs κ (Γ R g xs κ)
 unfold Γ
 split
 ·exact aa.none
theorem aF {R:Type} (tab:cg) (f:ay tab) (a0 a1:_) (κ:KT R):aa Tryz.prog (ag br) tab 25 [.ro 9 a0 false,.ro 9 a1 true] κ (bz a0 a1 (K0 κ)):=aj (C:=C R) (fn:=Tryz.f25) cE (ae tab f) (by kernel_rfl) (by kernel_rfl) (by rw [k];rw [g4 R κ ah];rfl)
end bz
namespace aK
abbrev K0 {R:Type} (κ:KT R):Y3->Y1 R:=fun f=>κ [.tup [.nil,.bool f]]
abbrev K1 {R:Type} (κ:KT R):LA->Y3->Y1 R:=fun f j=>κ [.tup [.fr 3 f true,.bool j]]
section
variable (R:Type)
def Γ (g:Nat) (xs:List SV) (κ:KT R):Y1 R:=
 match g with
 | _=>none
def h (n:Nat):Option (List (Nat × List (Nat × Nat))):=
 match n with
 | 5=>some [(0,[(0,0)]),(4,[(0,5)]),(5,[(0,0)]),(6,[(0,0)]),(7,[(0,0)])]
 | _=>none
def C:Cfg R:=⟨ag br,Γ R,fun _=>false,h,0,fun _=>false⟩
noncomputable def S:=S0 (C R) Tryz.f58 0
noncomputable def G:=G0 (C R) Tryz.f58 0
def s5:=fun x0 f j m u=>(⟨eA 60 [(0,.str x0),(4,.own 320),(5,.int .i64 f),(6,.int .i64 j),(7,.int .i64 m)],[(320,.row 3 u true)],ez⟩:St)
noncomputable abbrev q5 {R:Type} (J:JT R):J5 R:=fun x0 f j m u=>J (placeOf Tryz.f58 5) (s5 x0 f j m u)
theorem k5 (J:JT R) (κ:KT R) (x0 f j m u:_):S R κ J 5 (s5 x0 f j m u)=t5 (q5 J) (K0 κ) (K1 κ) x0 f j m u:=by kernel_rfl
theorem k (κ:KT R) (k:Nat) (a0:_):cA (C R) Tryz.f58 10000 k [.str a0] κ=aK.e a0 (q5 (G R κ k)) (K0 κ) (K1 κ):=by kernel_rfl
theorem g5 (κ:KT R):∀ (f:Nat),q5 (G R κ f)=L5 (K0 κ) (K1 κ) f
 | 0=>rfl
 | f+1=>by
  funext x0 j m u z
  show S R κ (G R κ f) 5 _=_
  rw [k5,g5 κ f]
  rfl
end
theorem ae {R:Type} (tab:cg) (f:ay tab) (g:Nat):bT (R:=R) Tryz.prog (ag br) tab g ((C R).call g):=by
 refine aI fun xs κ => ?_
 show aa _ _ _ g xs κ (Γ R g xs κ)
 unfold Γ
 split
 ·exact aa.none
theorem aF {R:Type} (tab:cg) (f:ay tab) (a0:_) (κ:KT R):aa Tryz.prog (ag br) tab 58 [.str a0] κ (aK a0 (K0 κ) (K1 κ)):=aj (C:=C R) (fn:=Tryz.f58) cE (ae tab f) (by kernel_rfl) (by kernel_rfl) (by rw [k];rw [g5 R κ ah];rfl)
end aK
namespace cR
abbrev K0 {R:Type} (κ:KT R):Q0 R:=fun Y r1 r2 r3 r4 r5 r6 r7 r8 r9 f j m u z A M N O U V W X=>κ [.tup [.agg [.str Y,.str r1,.str r2,.ro 129 r3 true,.bool r4,.str r5,.bool r6,.str r7,.bool r8,.str r9,.bool f,.str j,.ro 129 m true,.ro 9 u true,.bool z,.str A,.int .i64 M,.int .i64 N,.int .i64 O,.int .i64 U,.int .i64 V,.ro 32 W true],.bool X]]
abbrev K1 {R:Type} (κ:KT R):Q1 R:=fun U V W X Y r5 r6 r7 r8 r9 f j m u z A M N O=>κ [.tup [.agg [.str U,.str V,.str W,.nil,.bool X,.str Y,.bool r5,.str r6,.bool r7,.str r8,.bool r9,.str f,.nil,.nil,.bool j,.str m,.int .i64 u,.int .i64 z,.int .i64 A,.int .i64 M,.int .i64 N,.nil],.bool O]]
section
variable (R:Type) (c1:aK.F R)
def Γ (g:Nat) (xs:List SV) (κ:KT R):Y1 R:=
 match g with
 | 58=>(match xs with
  | [.str a0]=>c1 a0 (aK.K0 κ) (aK.K1 κ)
  | _=>none)
 | _=>none
def h (n:Nat):Option (List (Nat × List (Nat × Nat))):=
 match n with
 | 4=>some [(1,[(0,0)]),(2,[(0,0)]),(4,[(0,0)]),(6,[(0,5)]),(7,[(0,0)])]
 | 8=>some [(1,[(0,0)]),(2,[(0,0)]),(4,[(0,0)]),(6,[(0,0)]),(8,[(0,0)]),(9,[(0,0)])]
 | 9=>some [(1,[(0,0)]),(2,[(0,0)]),(4,[(0,0)]),(6,[(0,0)]),(8,[(0,0)]),(9,[(0,0)])]
 | 14=>some [(1,[(0,0)]),(2,[(0,0)]),(4,[(0,0)]),(6,[(0,0)]),(8,[(0,0)]),(9,[(0,0)]),(10,[(0,0)])]
 | 18=>some [(1,[(0,0)]),(2,[(0,0)]),(4,[(0,0)]),(6,[(0,0)]),(8,[(0,0)]),(9,[(0,0)]),(10,[(0,0)])]
 | 20=>some [(1,[(0,0)]),(2,[(0,0)]),(4,[(0,0)]),(6,[(0,0)]),(9,[(0,0)])]
 | _=>none
def C:Cfg R:=⟨ag br,Γ R c1,fun _=>false,h,0,fun _=>false⟩
noncomputable def S:=S0 (C R c1) Tryz.f23 0
noncomputable def G:=G0 (C R c1) Tryz.f23 0
def s4:=fun x0 x1 x2 x3 x4 x5 x6 x7 x8 x9 f j m u z A M N O U V W X Y ad ae ap ar ax a1 a6 a7 a8 bb be bk bs bx bP bS bV b0 b1=>(⟨eA 82 [(1,.str x0),(2,.ptr 255 0),(4,.ptr 383 0),(6,.own 448),(7,.bool x1)],[(255,.var 32 [.str x2,.str x3,.str x4,.ro 129 x5 true,.bool x6,.str x7,.bool x8,.str x9,.bool f,.str j,.bool m,.str u,.ro 129 z true,.ro 9 A true,.bool M,.str N,.int .i64 O,.int .i64 U,.int .i64 V,.int .i64 W,.int .i64 X,.ro 32 Y true]),(383,.var 32 [.str ad,.str ae,.str ap,.nil,.bool ar,.str ax,.bool a1,.str a6,.bool a7,.str a8,.bool bb,.str be,.nil,.nil,.bool bk,.str bs,.int .i64 bx,.int .i64 bP,.int .i64 bS,.int .i64 bV,.int .i64 b0,.nil]),(448,.row 3 b1 true)],ez⟩:St)
def s8:=fun x0 x1 x2 x3 x4 x5 x6 x7 x8 x9 f j m u z A M N O U V W X Y ad ae ap ar ax a1 a6 a7 a8 bb be bk bs bx bP bS bV b0 b1 b2=>(⟨eA 82 [(1,.str x0),(2,.ptr 255 0),(4,.ptr 383 0),(6,.own 448),(8,.bool x1),(9,.int .i64 x2)],[(255,.var 32 [.str x3,.str x4,.str x5,.ro 129 x6 true,.bool x7,.str x8,.bool x9,.str f,.bool j,.str m,.bool u,.str z,.ro 129 A true,.ro 9 M true,.bool N,.str O,.int .i64 U,.int .i64 V,.int .i64 W,.int .i64 X,.int .i64 Y,.ro 32 ad true]),(383,.var 32 [.str ae,.str ap,.str ar,.nil,.bool ax,.str a1,.bool a6,.str a7,.bool a8,.str bb,.bool be,.str bk,.nil,.nil,.bool bs,.str bx,.int .i64 bP,.int .i64 bS,.int .i64 bV,.int .i64 b0,.int .i64 b1,.nil]),(448,.row 3 b2 true)],ez⟩:St)
def s9:=fun x0 x1 x2 x3 x4 x5 x6 x7 x8 x9 f j m u z A M N O U V W X Y ad ae ap ar ax a1 a6 a7 a8 bb be bk bs bx bP bS bV b0 b1 b2=>(⟨eA 82 [(1,.str x0),(2,.ptr 255 0),(4,.ptr 383 0),(6,.own 448),(8,.bool x1),(9,.int .i64 x2)],[(255,.var 32 [.str x3,.str x4,.str x5,.ro 129 x6 true,.bool x7,.str x8,.bool x9,.str f,.bool j,.str m,.bool u,.str z,.ro 129 A true,.ro 9 M true,.bool N,.str O,.int .i64 U,.int .i64 V,.int .i64 W,.int .i64 X,.int .i64 Y,.ro 32 ad true]),(383,.var 32 [.str ae,.str ap,.str ar,.nil,.bool ax,.str a1,.bool a6,.str a7,.bool a8,.str bb,.bool be,.str bk,.nil,.nil,.bool bs,.str bx,.int .i64 bP,.int .i64 bS,.int .i64 bV,.int .i64 b0,.int .i64 b1,.nil]),(448,.row 3 b2 true)],ez⟩:St)
def Fm:=fun x0 x1 x2 x3 x4 x5 x6 x7 x8 x9 f j m u z A M N O U V W X Y ad ae ap ar ax a1 a6 a7 a8 bb be bk bs bx bP bS bV b0 b1 b2 b3=>(⟨eA 82 [(1,.str x0),(2,.ptr 255 0),(4,.ptr 383 0),(6,.own 448),(8,.bool x1),(9,.int .i64 x2),(10,.int .i64 x3)],[(255,.var 32 [.str x4,.str x5,.str x6,.ro 129 x7 true,.bool x8,.str x9,.bool f,.str j,.bool m,.str u,.bool z,.str A,.ro 129 M true,.ro 9 N true,.bool O,.str U,.int .i64 V,.int .i64 W,.int .i64 X,.int .i64 Y,.int .i64 ad,.ro 32 ae true]),(383,.var 32 [.str ap,.str ar,.str ax,.nil,.bool a1,.str a6,.bool a7,.str a8,.bool bb,.str be,.bool bk,.str bs,.nil,.nil,.bool bx,.str bP,.int .i64 bS,.int .i64 bV,.int .i64 b0,.int .i64 b1,.int .i64 b2,.nil]),(448,.row 3 b3 true)],ez⟩:St)
def Ga:=fun x0 x1 x2 x3 x4 x5 x6 x7 x8 x9 f j m u z A M N O U V W X Y ad ae ap ar ax a1 a6 a7 a8 bb be bk bs bx bP bS bV b0 b1 b2 b3=>(⟨eA 82 [(1,.str x0),(2,.ptr 255 0),(4,.ptr 383 0),(6,.own 448),(8,.bool x1),(9,.int .i64 x2),(10,.int .i64 x3)],[(255,.var 32 [.str x4,.str x5,.str x6,.ro 129 x7 true,.bool x8,.str x9,.bool f,.str j,.bool m,.str u,.bool z,.str A,.ro 129 M true,.ro 9 N true,.bool O,.str U,.int .i64 V,.int .i64 W,.int .i64 X,.int .i64 Y,.int .i64 ad,.ro 32 ae true]),(383,.var 32 [.str ap,.str ar,.str ax,.nil,.bool a1,.str a6,.bool a7,.str a8,.bool bb,.str be,.bool bk,.str bs,.nil,.nil,.bool bx,.str bP,.int .i64 bS,.int .i64 bV,.int .i64 b0,.int .i64 b1,.int .i64 b2,.nil]),(448,.row 3 b3 true)],ez⟩:St)
def Ic:=fun x0 x1 x2 x3 x4 x5 x6 x7 x8 x9 f j m u z A M N O U V W X Y ad ae ap ar ax a1 a6 a7 a8 bb be bk bs bx bP bS bV b0 b1=>(⟨eA 82 [(1,.str x0),(2,.ptr 255 0),(4,.ptr 383 0),(6,.own 448),(9,.int .i64 x1)],[(255,.var 32 [.str x2,.str x3,.str x4,.ro 129 x5 true,.bool x6,.str x7,.bool x8,.str x9,.bool f,.str j,.bool m,.str u,.ro 129 z true,.ro 9 A true,.bool M,.str N,.int .i64 O,.int .i64 U,.int .i64 V,.int .i64 W,.int .i64 X,.ro 32 Y true]),(383,.var 32 [.str ad,.str ae,.str ap,.nil,.bool ar,.str ax,.bool a1,.str a6,.bool a7,.str a8,.bool bb,.str be,.nil,.nil,.bool bk,.str bs,.int .i64 bx,.int .i64 bP,.int .i64 bS,.int .i64 bV,.int .i64 b0,.nil]),(448,.row 3 b1 true)],ez⟩:St)
noncomputable abbrev q4 {R:Type} (J:JT R):J4 R:=fun x0 x1 x2 x3 x4 x5 x6 x7 x8 x9 f j m u z A M N O U V W X Y ad ae ap ar ax a1 a6 a7 a8 bb be bk bs bx bP bS bV b0 b1=>J (placeOf Tryz.f23 4) (s4 x0 x1 x2 x3 x4 x5 x6 x7 x8 x9 f j m u z A M N O U V W X Y ad ae ap ar ax a1 a6 a7 a8 bb be bk bs bx bP bS bV b0 b1)
noncomputable abbrev q8 {R:Type} (J:JT R):J8 R:=fun x0 x1 x2 x3 x4 x5 x6 x7 x8 x9 f j m u z A M N O U V W X Y ad ae ap ar ax a1 a6 a7 a8 bb be bk bs bx bP bS bV b0 b1 b2=>J (placeOf Tryz.f23 8) (s8 x0 x1 x2 x3 x4 x5 x6 x7 x8 x9 f j m u z A M N O U V W X Y ad ae ap ar ax a1 a6 a7 a8 bb be bk bs bx bP bS bV b0 b1 b2)
noncomputable abbrev q9 {R:Type} (J:JT R):J9 R:=fun x0 x1 x2 x3 x4 x5 x6 x7 x8 x9 f j m u z A M N O U V W X Y ad ae ap ar ax a1 a6 a7 a8 bb be bk bs bx bP bS bV b0 b1 b2=>J (placeOf Tryz.f23 9) (s9 x0 x1 x2 x3 x4 x5 x6 x7 x8 x9 f j m u z A M N O U V W X Y ad ae ap ar ax a1 a6 a7 a8 bb be bk bs bx bP bS bV b0 b1 b2)
noncomputable abbrev Fc {R:Type} (J:JT R):An R:=fun x0 x1 x2 x3 x4 x5 x6 x7 x8 x9 f j m u z A M N O U V W X Y ad ae ap ar ax a1 a6 a7 a8 bb be bk bs bx bP bS bV b0 b1 b2 b3=>J (placeOf Tryz.f23 14) (Fm x0 x1 x2 x3 x4 x5 x6 x7 x8 x9 f j m u z A M N O U V W X Y ad ae ap ar ax a1 a6 a7 a8 bb be bk bs bx bP bS bV b0 b1 b2 b3)
noncomputable abbrev Bg {R:Type} (J:JT R):tK R:=fun x0 x1 x2 x3 x4 x5 x6 x7 x8 x9 f j m u z A M N O U V W X Y ad ae ap ar ax a1 a6 a7 a8 bb be bk bs bx bP bS bV b0 b1 b2 b3=>J (placeOf Tryz.f23 18) (Ga x0 x1 x2 x3 x4 x5 x6 x7 x8 x9 f j m u z A M N O U V W X Y ad ae ap ar ax a1 a6 a7 a8 bb be bk bs bx bP bS bV b0 b1 b2 b3)
noncomputable abbrev Fe {R:Type} (J:JT R):Ao R:=fun x0 x1 x2 x3 x4 x5 x6 x7 x8 x9 f j m u z A M N O U V W X Y ad ae ap ar ax a1 a6 a7 a8 bb be bk bs bx bP bS bV b0 b1=>J (placeOf Tryz.f23 20) (Ic x0 x1 x2 x3 x4 x5 x6 x7 x8 x9 f j m u z A M N O U V W X Y ad ae ap ar ax a1 a6 a7 a8 bb be bk bs bx bP bS bV b0 b1)
theorem k4 (J:JT R) (κ:KT R) (x0 x1 x2 x3 x4 x5 x6 x7 x8 x9 f j m u z A M N O U V W X Y ad ae ap ar ax a1 a6 a7 a8 bb be bk bs bx bP bS bV b0 b1:_):S R c1 κ J 4 (s4 x0 x1 x2 x3 x4 x5 x6 x7 x8 x9 f j m u z A M N O U V W X Y ad ae ap ar ax a1 a6 a7 a8 bb be bk bs bx bP bS bV b0 b1)=t4 (q8 J) (K1 κ) x0 x1 x2 x3 x4 x5 x6 x7 x8 x9 f j m u z A M N O U V W X Y ad ae ap ar ax a1 a6 a7 a8 bb be bk bs bx bP bS bV b0 b1:=by kernel_rfl
theorem k8 (J:JT R) (κ:KT R) (x0 x1 x2 x3 x4 x5 x6 x7 x8 x9 f j m u z A M N O U V W X Y ad ae ap ar ax a1 a6 a7 a8 bb be bk bs bx bP bS bV b0 b1 b2:_):S R c1 κ J 8 (s8 x0 x1 x2 x3 x4 x5 x6 x7 x8 x9 f j m u z A M N O U V W X Y ad ae ap ar ax a1 a6 a7 a8 bb be bk bs bx bP bS bV b0 b1 b2)=t8 (Fc J) (K0 κ) x0 x1 x2 x3 x4 x5 x6 x7 x8 x9 f j m u z A M N O U V W X Y ad ae ap ar ax a1 a6 a7 a8 bb be bk bs bx bP bS bV b0 b1 b2:=by kernel_rfl
theorem k9 (J:JT R) (κ:KT R) (x0 x1 x2 x3 x4 x5 x6 x7 x8 x9 f j m u z A M N O U V W X Y ad ae ap ar ax a1 a6 a7 a8 bb be bk bs bx bP bS bV b0 b1 b2:_):S R c1 κ J 9 (s9 x0 x1 x2 x3 x4 x5 x6 x7 x8 x9 f j m u z A M N O U V W X Y ad ae ap ar ax a1 a6 a7 a8 bb be bk bs bx bP bS bV b0 b1 b2)=t9 (q8 J) x0 x1 x2 x3 x4 x5 x6 x7 x8 x9 f j m u z A M N O U V W X Y ad ae ap ar ax a1 a6 a7 a8 bb be bk bs bx bP bS bV b0 b1 b2:=by kernel_rfl
theorem IK (J:JT R) (κ:KT R) (x0 x1 x2 x3 x4 x5 x6 x7 x8 x9 f j m u z A M N O U V W X Y ad ae ap ar ax a1 a6 a7 a8 bb be bk bs bx bP bS bV b0 b1 b2 b3:_):S R c1 κ J 14 (Fm x0 x1 x2 x3 x4 x5 x6 x7 x8 x9 f j m u z A M N O U V W X Y ad ae ap ar ax a1 a6 a7 a8 bb be bk bs bx bP bS bV b0 b1 b2 b3)=t14 (Bg J) (Fe J) (K1 κ) x0 x1 x2 x3 x4 x5 x6 x7 x8 x9 f j m u z A M N O U V W X Y ad ae ap ar ax a1 a6 a7 a8 bb be bk bs bx bP bS bV b0 b1 b2 b3:=by kernel_rfl
theorem HO (J:JT R) (κ:KT R) (x0 x1 x2 x3 x4 x5 x6 x7 x8 x9 f j m u z A M N O U V W X Y ad ae ap ar ax a1 a6 a7 a8 bb be bk bs bx bP bS bV b0 b1 b2 b3:_):S R c1 κ J 18 (Ga x0 x1 x2 x3 x4 x5 x6 x7 x8 x9 f j m u z A M N O U V W X Y ad ae ap ar ax a1 a6 a7 a8 bb be bk bs bx bP bS bV b0 b1 b2 b3)=t18 (Fe J) (K1 κ) x0 x1 x2 x3 x4 x5 x6 x7 x8 x9 f j m u z A M N O U V W X Y ad ae ap ar ax a1 a6 a7 a8 bb be bk bs bx bP bS bV b0 b1 b2 b3:=by kernel_rfl
theorem IM (J:JT R) (κ:KT R) (x0 x1 x2 x3 x4 x5 x6 x7 x8 x9 f j m u z A M N O U V W X Y ad ae ap ar ax a1 a6 a7 a8 bb be bk bs bx bP bS bV b0 b1:_):S R c1 κ J 20 (Ic x0 x1 x2 x3 x4 x5 x6 x7 x8 x9 f j m u z A M N O U V W X Y ad ae ap ar ax a1 a6 a7 a8 bb be bk bs bx bP bS bV b0 b1)=t20 (q9 J) x0 x1 x2 x3 x4 x5 x6 x7 x8 x9 f j m u z A M N O U V W X Y ad ae ap ar ax a1 a6 a7 a8 bb be bk bs bx bP bS bV b0 b1:=by kernel_rfl
theorem k (κ:KT R) (k:Nat) (a0 a1 a2 a3 a4 a5 V W X a9 f j a12 m u z A M N O a20 a21 U:_):cA (C R c1) Tryz.f23 10000 k [.agg [.str a0,.str a1,.str a2,.ro 129 a3 true,.bool a4,.str a5,.bool V,.str W,.bool X,.str a9,.bool f,.str j,.ro 129 a12 true,.ro 9 m true,.bool u,.str z,.int .i64 A,.int .i64 M,.int .i64 N,.int .i64 O,.int .i64 a20,.ro 32 a21 true],.str U] κ=cR.e c1 a0 a1 a2 a3 a4 a5 V W X a9 f j a12 m u z A M N O a20 a21 U (q4 (G R c1 κ k)) (q8 (G R c1 κ k)) (q9 (G R c1 κ k)) (Fc (G R c1 κ k)) (Bg (G R c1 κ k)) (Fe (G R c1 κ k)) (K0 κ) (K1 κ):=by kernel_rfl
theorem Hr (κ:KT R):∀ (f:Nat),(q8 (G R c1 κ f)=L8 c1 (K0 κ) (K1 κ) f)/\(q9 (G R c1 κ f)=L9 c1 (K0 κ) (K1 κ) f)/\(Fc (G R c1 κ f)=BI c1 (K0 κ) (K1 κ) f)/\(Bg (G R c1 κ f)=rj c1 (K0 κ) (K1 κ) f)/\(Fe (G R c1 κ f)=BJ c1 (K0 κ) (K1 κ) f)
 | 0=>⟨rfl,rfl,rfl,rfl,rfl⟩
 | f+1=>by
  obtain ⟨b5,b',ca,cl,b4⟩:=Hr κ f
  refine ⟨?_,?_,?_,?_,?_⟩
  ·funext x0 x1 x2 x3 x4 x5 x6 x7 x8 x9 j m u z A M N O U V W X Y ad ae ap ar ax a1 a6 a7 a8 bb be bk bs bx bP bS bV b0 b1 b2 b3
   show S R c1 κ (G R c1 κ f) 8 _=_
   rw [k8,ca]
   rfl
  ·funext x0 x1 x2 x3 x4 x5 x6 x7 x8 x9 j m u z A M N O U V W X Y ad ae ap ar ax a1 a6 a7 a8 bb be bk bs bx bP bS bV b0 b1 b2 b3
   show S R c1 κ (G R c1 κ f) 9 _=_
   rw [k9,b5]
   rfl
  ·funext x0 x1 x2 x3 x4 x5 x6 x7 x8 x9 j m u z A M N O U V W X Y ad ae ap ar ax a1 a6 a7 a8 bb be bk bs bx bP bS bV b0 b1 b2 b3 cp
   show S R c1 κ (G R c1 κ f) 14 _=_
   rw [IK,cl,b4]
   rfl
  ·funext x0 x1 x2 x3 x4 x5 x6 x7 x8 x9 j m u z A M N O U V W X Y ad ae ap ar ax a1 a6 a7 a8 bb be bk bs bx bP bS bV b0 b1 b2 b3 cp
   show S R c1 κ (G R c1 κ f) 18 _=_
   rw [HO,b4]
   rfl
  ·funext x0 x1 x2 x3 x4 x5 x6 x7 x8 x9 j m u z A M N O U V W X Y ad ae ap ar ax a1 a6 a7 a8 bb be bk bs bx bP bS bV b0 b1 b2
   show S R c1 κ (G R c1 κ f) 20 _=_
   rw [IM,b']
   rfl
theorem g8 (κ:KT R) (f:Nat):q8 (G R c1 κ f)=L8 c1 (K0 κ) (K1 κ) f:=(Hr R c1 κ f).1
theorem g9 (κ:KT R) (f:Nat):q9 (G R c1 κ f)=L9 c1 (K0 κ) (K1 κ) f:=(Hr R c1 κ f).2.1
theorem g14 (κ:KT R) (f:Nat):Fc (G R c1 κ f)=BI c1 (K0 κ) (K1 κ) f:=(Hr R c1 κ f).2.2.1
theorem g18 (κ:KT R) (f:Nat):Bg (G R c1 κ f)=rj c1 (K0 κ) (K1 κ) f:=(Hr R c1 κ f).2.2.2.1
theorem g20 (κ:KT R) (f:Nat):Fe (G R c1 κ f)=BJ c1 (K0 κ) (K1 κ) f:=(Hr R c1 κ f).2.2.2.2
theorem g4 (κ:KT R):∀ (f:Nat),q4 (G R c1 κ f)=L4 c1 (K0 κ) (K1 κ) f
 | 0=>rfl
 | f+1=>by
  funext x0 x1 x2 x3 x4 x5 x6 x7 x8 x9 j m u z A M N O U V W X Y ad ae ap ar ax a1 a6 a7 a8 bb be bk bs bx bP bS bV b0 b1 b2
  show S R c1 κ (G R c1 κ f) 4 _=_
  rw [k4,g8 R c1 κ f]
  rfl
end
theorem ae {R:Type} (tab:cg) (f:ay tab) (g:Nat):bT (R:=R) Tryz.prog (ag br) tab g ((C R aK).call g):=by
 refine aI fun xs κ => ?_
 show aa _ _ _ g xs κ (Γ R aK g xs κ)
 unfold Γ
 split
 ·split
  ·exact aK.aF tab f _ κ
  ·exact aa.none
 ·exact aa.none
theorem aF {R:Type} (tab:cg) (Y:ay tab) (a0 a1 a2 a3 a4 a5 V W X a9 f j a12 m u z A M N O a20 a21 U:_) (κ:KT R):aa Tryz.prog (ag br) tab 23 [.agg [.str a0,.str a1,.str a2,.ro 129 a3 true,.bool a4,.str a5,.bool V,.str W,.bool X,.str a9,.bool f,.str j,.ro 129 a12 true,.ro 9 m true,.bool u,.str z,.int .i64 A,.int .i64 M,.int .i64 N,.int .i64 O,.int .i64 a20,.ro 32 a21 true],.str U] κ (cR a0 a1 a2 a3 a4 a5 V W X a9 f j a12 m u z A M N O a20 a21 U (K0 κ) (K1 κ)):=aj (C:=C R aK) (fn:=Tryz.f23) cE (ae tab Y) (by kernel_rfl) (by kernel_rfl) (by rw [k];rw [g4 R aK κ ah,g8 R aK κ ah,g9 R aK κ ah,g14 R aK κ ah,g18 R aK κ ah,g20 R aK κ ah];rfl)
end cR
namespace dJ
abbrev K0 {R:Type} (κ:KT R):BA->Y3->Y1 R:=fun f j=>κ [.tup [.str f,.bool j]]
section
variable (R:Type)
def Γ (g:Nat) (xs:List SV) (κ:KT R):Y1 R:=
 match g with
 | _=>none
def h (n:Nat):Option (List (Nat × List (Nat × Nat))):=
 match n with
 | _=>none
def C:Cfg R:=⟨ag br,Γ R,fun _=>false,h,0,fun _=>false⟩
theorem k (κ:KT R) (k:Nat) (a0 a1 a2:_):cA (C R) Tryz.f62 10000 k [.str a0,.agg [.int .i64 a1,.int .i64 a2]] κ=dJ.e a0 a1 a2 (K0 κ):=by kernel_rfl
end
theorem ae {R:Type} (tab:cg) (f:ay tab) (g:Nat):bT (R:=R) Tryz.prog (ag br) tab g ((C R).call g):=by
 refine aI fun xs κ => ?_
 show aa _ _ _ g xs κ (Γ R g xs κ)
 unfold Γ
 split
 ·exact aa.none
theorem aF {R:Type} (tab:cg) (f:ay tab) (a0 a1 a2:_) (κ:KT R):aa Tryz.prog (ag br) tab 62 [.str a0,.agg [.int .i64 a1,.int .i64 a2]] κ (dJ a0 a1 a2 (K0 κ)):=aj (C:=C R) (fn:=Tryz.f62) cE (ae tab f) (by kernel_rfl) (by kernel_rfl) (by rw [k];rfl)
end dJ
namespace dd
abbrev K0 {R:Type} (κ:KT R):BA->Y1 R:=fun f=>κ [.str f]
section
variable (R:Type) (c1:bW.F R) (c2:cw.F R) (c3:bU.F R)
def Γ (g:Nat) (xs:List SV) (κ:KT R):Y1 R:=
 match g with
 | 115=>(match xs with
  | [.str a0]=>c1 a0 (bW.K0 κ)
  | _=>none)
 | 116=>(match xs with
  | [.str a0,.str a1]=>c2 a0 a1 (cw.K0 κ)
  | _=>none)
 | 117=>(match xs with
  | [.str a0]=>c3 a0 (bU.K0 κ)
  | _=>none)
 | _=>none
def h (n:Nat):Option (List (Nat × List (Nat × Nat))):=
 match n with
 | 4=>some [(1,[(0,0)]),(2,[(0,0)]),(7,[(0,0)]),(8,[(0,0)]),(9,[(0,0)])]
 | 8=>some [(1,[(0,0)]),(2,[(0,0)]),(7,[(0,0)]),(8,[(0,0)]),(9,[(0,0)]),(10,[(0,0)]),(11,[(0,0)])]
 | _=>none
def C:Cfg R:=⟨ag br,Γ R c1 c2 c3,fun _=>false,h,0,fun _=>false⟩
noncomputable def S:=S0 (C R c1 c2 c3) Tryz.f63 0
noncomputable def G:=G0 (C R c1 c2 c3) Tryz.f63 0
def s4:=fun x0 f j m u=>(⟨eA 95 [(1,.bool x0),(2,.ro 9 f true),(7,.str j),(8,.own 576),(9,.int .i64 m)],[(576,.row 168 u true)],ez⟩:St)
def s8:=fun x0 f j m u z A=>(⟨eA 95 [(1,.bool x0),(2,.ro 9 f true),(7,.str j),(8,.own 576),(9,.int .i64 m),(10,.bool u),(11,.int .i64 z)],[(576,.row 168 A true)],ez⟩:St)
noncomputable abbrev q4 {R:Type} (J:JT R):J4 R:=fun x0 f j m u=>J (placeOf Tryz.f63 4) (s4 x0 f j m u)
noncomputable abbrev q8 {R:Type} (J:JT R):J8 R:=fun x0 f j m u z A=>J (placeOf Tryz.f63 8) (s8 x0 f j m u z A)
theorem k4 (J:JT R) (κ:KT R) (x0 f j m u:_):S R c1 c2 c3 κ J 4 (s4 x0 f j m u)=t4 (q8 J) (K0 κ) x0 f j m u:=by kernel_rfl
theorem k8 (J:JT R) (κ:KT R) (x0 f j m u z A:_):S R c1 c2 c3 κ J 8 (s8 x0 f j m u z A)=t8 c2 c3 (q4 J) (q8 J) x0 f j m u z A:=by kernel_rfl
theorem k (κ:KT R) (k:Nat) (a0 a1 a2:_):cA (C R c1 c2 c3) Tryz.f63 10000 k [.str a0,.bool a1,.ro 9 a2 true] κ=dd.e c1 c2 c3 a0 a1 a2 (q4 (G R c1 c2 c3 κ k)) (q8 (G R c1 c2 c3 κ k)) (K0 κ):=by kernel_rfl
theorem zo (κ:KT R):∀ (f:Nat),(q4 (G R c1 c2 c3 κ f)=L4 c1 c2 c3 (K0 κ) f)/\(q8 (G R c1 c2 c3 κ f)=L8 c1 c2 c3 (K0 κ) f)
 | 0=>⟨rfl,rfl⟩
 | f+1=>by
  obtain ⟨m,j⟩:=zo κ f
  refine ⟨?_,?_⟩
  ·funext x0 u z A M
   show S R c1 c2 c3 κ (G R c1 c2 c3 κ f) 4 _=_
   rw [k4,j]
   rfl
  ·funext x0 u z A M N O
   show S R c1 c2 c3 κ (G R c1 c2 c3 κ f) 8 _=_
   rw [k8,m,j]
   rfl
theorem g4 (κ:KT R) (f:Nat):q4 (G R c1 c2 c3 κ f)=L4 c1 c2 c3 (K0 κ) f:=(zo R c1 c2 c3 κ f).1
theorem g8 (κ:KT R) (f:Nat):q8 (G R c1 c2 c3 κ f)=L8 c1 c2 c3 (K0 κ) f:=(zo R c1 c2 c3 κ f).2
end
theorem ae {R:Type} (tab:cg) (f:ay tab) (g:Nat):bT (R:=R) Tryz.prog (ag br) tab g ((C R bW cw bU).call g):=by
 refine aI fun xs κ => ?_
 show aa _ _ _ g xs κ (Γ R bW cw bU g xs κ)
 unfold Γ
 split
 ·split
  ·exact bW.aF tab f _ κ
  ·exact aa.none
 ·split
  ·exact cw.aF tab f _ _ κ
  ·exact aa.none
 ·split
  ·exact bU.aF tab f _ κ
  ·exact aa.none
 ·exact aa.none
theorem aF {R:Type} (tab:cg) (f:ay tab) (a0 a1 a2:_) (κ:KT R):aa Tryz.prog (ag br) tab 63 [.str a0,.bool a1,.ro 9 a2 true] κ (dd a0 a1 a2 (K0 κ)):=aj (C:=C R bW cw bU) (fn:=Tryz.f63) cE (ae tab f) (by kernel_rfl) (by kernel_rfl) (by rw [k];rw [g4 R bW cw bU κ ah,g8 R bW cw bU κ ah];rfl)
end dd
namespace bd
abbrev K0 {R:Type} (κ:KT R):BA->Y3->Y1 R:=fun f j=>κ [.tup [.str f,.bool j]]
section
variable (R:Type) (c1:cR.F R) (c2:dJ.F R) (c3:dd.F R)
def Γ (g:Nat) (xs:List SV) (κ:KT R):Y1 R:=
 match g with
 | 23=>(match xs with
  | [.agg [.str a0,.str a1,.str a2,.ro 129 a3 true,.bool a4,.str a5,.bool V,.str W,.bool X,.str a9,.bool f,.str j,.ro 129 a12 true,.ro 9 m true,.bool u,.str z,.int .i64 A,.int .i64 M,.int .i64 N,.int .i64 O,.int .i64 a20,.ro 32 a21 true],.str U]=>c1 a0 a1 a2 a3 a4 a5 V W X a9 f j a12 m u z A M N O a20 a21 U (cR.K0 κ) (cR.K1 κ)
  | _=>none)
 | 62=>(match xs with
  | [.str a0,.agg [.int .i64 a1,.int .i64 a2]]=>c2 a0 a1 a2 (dJ.K0 κ)
  | _=>none)
 | 63=>(match xs with
  | [.str a0,.bool a1,.ro 9 a2 true]=>c3 a0 a1 a2 (dd.K0 κ)
  | _=>none)
 | _=>none
def h (n:Nat):Option (List (Nat × List (Nat × Nat))):=
 match n with
 | _=>none
def C:Cfg R:=⟨ag br,Γ R c1 c2 c3,fun _=>false,h,0,fun _=>false⟩
theorem k (κ:KT R) (k:Nat) (a0 a1 a2 a3 a4 a5 X Y a8 a9 f j a12 m u z A M N O a20 a21 U V a24 W:_):cA (C R c1 c2 c3) Tryz.f26 10000 k [.str a0,.agg [.str a1,.str a2,.str a3,.ro 129 a4 true,.bool a5,.str X,.bool Y,.str a8,.bool a9,.str f,.bool j,.str a12,.ro 129 m true,.ro 9 u true,.bool z,.str A,.int .i64 M,.int .i64 N,.int .i64 O,.int .i64 a20,.int .i64 a21,.ro 32 U true],.agg [.str V,.int .i64 a24,.ro 9 W true]] κ=bd.e c1 c2 c3 a0 a1 a2 a3 a4 a5 X Y a8 a9 f j a12 m u z A M N O a20 a21 U V a24 W (K0 κ):=by kernel_rfl
end
theorem ae {R:Type} (tab:cg) (f:ay tab) (g:Nat):bT (R:=R) Tryz.prog (ag br) tab g ((C R cR dJ dd).call g):=by
 refine aI fun xs κ => ?_
 show aa _ _ _ g xs κ (Γ R cR dJ dd g xs κ)
 unfold Γ
 split
 ·split
  ·exact cR.aF tab f _ _ _ _ _ _ _ _ _ _ _ _ _ _ _ _ _ _ _ _ _ _ _ κ
  ·exact aa.none
 ·split
  ·exact dJ.aF tab f _ _ _ κ
  ·exact aa.none
 ·split
  ·exact dd.aF tab f _ _ _ κ
  ·exact aa.none
 ·exact aa.none
theorem aF {R:Type} (tab:cg) (ht:ay tab) (a0 a1 a2 a3 a4 a5 X Y a8 a9 f j a12 m u z A M N O a20 a21 U V a24 W:_) (κ:KT R):aa Tryz.prog (ag br) tab 26 [.str a0,.agg [.str a1,.str a2,.str a3,.ro 129 a4 true,.bool a5,.str X,.bool Y,.str a8,.bool a9,.str f,.bool j,.str a12,.ro 129 m true,.ro 9 u true,.bool z,.str A,.int .i64 M,.int .i64 N,.int .i64 O,.int .i64 a20,.int .i64 a21,.ro 32 U true],.agg [.str V,.int .i64 a24,.ro 9 W true]] κ (bd a0 a1 a2 a3 a4 a5 X Y a8 a9 f j a12 m u z A M N O a20 a21 U V a24 W (K0 κ)):=aj (C:=C R cR dJ dd) (fn:=Tryz.f26) cE (ae tab ht) (by kernel_rfl) (by kernel_rfl) (by rw [k];rfl)
end bd
end Go.Proofs.Ab
