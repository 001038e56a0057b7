/- Each plain function is what a call of its Go function does, checked by the kernel (no condition but what its checks ask). -/
import Derived.Test.YtneffefnlogkaaaGreatDoorSeat
import Derived.Test.YtneffefnlogkaaaGreatDoorText
import Derived.Test.YtneffefnlogkaaaGreatDoorCheck3
set_option linter.unusedVariables false
set_option linter.unusedSimpArgs false
set_option maxRecDepth 4000
namespace Go.Proofs.Ab
open Go Go.Proofs
set_option maxRecDepth 100000
namespace aG
abbrev K0 {R:Type} (κ:KT R):Y3->Y1 R:=fun f=>κ [.bool f]
section
variable (R:Type) (c1:b8.F R) (c2:bh.F R) (c3:bO.F R) (c4:aM.F R) (c5:aW.F R) (c6:bz.F R) (c7:bd.F R)
def Γ (g:Nat) (xs:List SV) (κ:KT R):Y1 R:=
 match g with
 | 12=>(match xs with
  | []=>c1 (b8.K0 κ)
  | _=>none)
 | 14=>(match xs with
  | [.str a0]=>c2 a0 (bh.K0 κ)
  | _=>none)
 | 15=>(match xs with
  | [.str a0]=>c3 a0 (bO.K0 κ)
  | _=>none)
 | 21=>(match xs with
  | [.agg [.str a0,.str a1,.str a2,.ro 129 a3 true,.bool a4,.str a5,.bool X,.str Y,.bool a8,.str a9,.bool f,.str j,.ro 129 a12 true,.ro 9 m true,.bool u,.str z,.int .i64 A,.int .i64 M,.int .i64 N,.int .i64 O,.int .i64 a20,.ro 32 a21 true]]=>c4 a0 a1 a2 a3 a4 a5 X Y a8 a9 f j a12 m u z A M N O a20 a21 (aM.K0 κ)
  | _=>none)
 | 24=>(match xs with
  | [.str a0,.agg [.str a1,.str a2,.str a3,.ro 129 a4 true,.bool a5,.str X,.bool Y,.str a8,.bool a9,.str f,.bool j,.str a12,.ro 129 m true,.ro 9 u true,.bool z,.str A,.int .i64 M,.int .i64 N,.int .i64 O,.int .i64 a20,.int .i64 a21,.ro 32 U true],.agg [.str V,.int .i64 a24,.ro 9 W false]]=>c5 a0 a1 a2 a3 a4 a5 X Y a8 a9 f j a12 m u z A M N O a20 a21 U V a24 W (aW.K0 κ)
  | _=>none)
 | 25=>(match xs with
  | [.ro 9 a0 false,.ro 9 a1 true]=>c6 a0 a1 (bz.K0 κ)
  | _=>none)
 | 26=>(match xs with
  | [.str a0,.agg [.str a1,.str a2,.str a3,.ro 129 a4 true,.bool a5,.str X,.bool Y,.str a8,.bool a9,.str f,.bool j,.str a12,.ro 129 m true,.ro 9 u true,.bool z,.str A,.int .i64 M,.int .i64 N,.int .i64 O,.int .i64 a20,.int .i64 a21,.ro 32 U true],.agg [.str V,.int .i64 a24,.ro 9 W true]]=>c7 a0 a1 a2 a3 a4 a5 X Y a8 a9 f j a12 m u z A M N O a20 a21 U V a24 W (bd.K0 κ)
  | _=>none)
 | _=>none
def h (n:Nat):Option (List (Nat × List (Nat × Nat))):=
 match n with
 | 10=>some [(0,[(0,0)]),(1,[(0,0)]),(3,[(0,0)]),(4,[(0,0)]),(12,[(0,0)]),(13,[(0,0)]),(14,[(0,0)]),(15,[(0,0)])]
 | 13=>some [(0,[(0,0)]),(1,[(0,0)]),(3,[(0,0)]),(4,[(0,0)]),(12,[(0,0)]),(13,[(0,0)]),(14,[(0,0)]),(15,[(0,0)]),(16,[(0,0)])]
 | 18=>some [(0,[(0,0)]),(1,[(0,0)]),(3,[(0,0)]),(4,[(0,0)]),(12,[(0,0)]),(13,[(0,0)]),(14,[(0,0)]),(15,[(0,0)]),(16,[(0,0)]),(17,[(0,0)])]
 | _=>none
def C:Cfg R:=⟨ag br,Γ R c1 c2 c3 c4 c5 c6 c7,fun _=>false,h,0,fun _=>false⟩
noncomputable def S:=S0 (C R c1 c2 c3 c4 c5 c6 c7) Tryz.f7 0
noncomputable def G:=G0 (C R c1 c2 c3 c4 c5 c6 c7) Tryz.f7 0
def H':=fun x0 x1 x2 x3 x4 x5 x6 x7 x8 x9 f j m u z A M N O U V W X Y ad ae ap ar ax a1 a6 a7 a8 bb be bk bs bx bP bS bV b0 b1 b2 b3 b4 b5 b' ca cl=>(⟨eA 159 [(0,.str x0),(1,.str x1),(3,.int .i64 x2),(4,.ro 9 x3 true),(12,.ptr 895 0),(13,.ptr 959 0),(14,.own 960),(15,.int .i64 x4)],[(895,.var 32 [.str x5,.str x6,.str x7,.ro 129 x8 true,.bool x9,.str f,.bool j,.str m,.bool u,.str z,.bool A,.str M,.ro 129 N true,.ro 9 O true,.bool U,.str V,.int .i64 W,.int .i64 X,.int .i64 Y,.int .i64 ad,.int .i64 ae,.ro 32 ap true]),(959,.var 32 [.str ar,.str ax,.str a1,.ro 129 a6 true,.bool a7,.str a8,.bool bb,.str be,.bool bk,.str bs,.bool bx,.str bP,.ro 129 bS true,.ro 9 bV true,.bool b0,.str b1,.int .i64 b2,.int .i64 b3,.int .i64 b4,.int .i64 b5,.int .i64 b',.ro 32 ca true]),(960,.row 9 cl true)],ez⟩:St)
def Ia:=fun x0 x1 x2 x3 x4 x5 x6 x7 x8 x9 f j m u z A M N O U V W X Y ad ae ap ar ax a1 a6 a7 a8 bb be bk bs bx bP bS bV b0 b1 b2 b3 b4 b5 b' ca cl cp=>(⟨eA 159 [(0,.str x0),(1,.str x1),(3,.int .i64 x2),(4,.ro 9 x3 true),(12,.ptr 895 0),(13,.ptr 959 0),(14,.own 960),(15,.int .i64 x4),(16,.int .i64 x5)],[(895,.var 32 [.str x6,.str x7,.str x8,.ro 129 x9 true,.bool f,.str j,.bool m,.str u,.bool z,.str A,.bool M,.str N,.ro 129 O true,.ro 9 U true,.bool V,.str W,.int .i64 X,.int .i64 Y,.int .i64 ad,.int .i64 ae,.int .i64 ap,.ro 32 ar true]),(959,.var 32 [.str ax,.str a1,.str a6,.ro 129 a7 true,.bool a8,.str bb,.bool be,.str bk,.bool bs,.str bx,.bool bP,.str bS,.ro 129 bV true,.ro 9 b0 true,.bool b1,.str b2,.int .i64 b3,.int .i64 b4,.int .i64 b5,.int .i64 b',.int .i64 ca,.ro 32 cl true]),(960,.row 9 cp true)],ez⟩:St)
def Ga:=fun x0 x1 x2 x3 x4 x5 x6 x7 x8 x9 f j m u z A M N O U V W X Y ad ae ap ar ax a1 a6 a7 a8 bb be bk bs bx bP bS bV b0 b1 b2 b3 b4 b5 b' ca cl cp ct=>(⟨eA 159 [(0,.str x0),(1,.str x1),(3,.int .i64 x2),(4,.ro 9 x3 true),(12,.ptr 895 0),(13,.ptr 959 0),(14,.own 960),(15,.int .i64 x4),(16,.int .i64 x5),(17,.int .i64 x6)],[(895,.var 32 [.str x7,.str x8,.str x9,.ro 129 f true,.bool j,.str m,.bool u,.str z,.bool A,.str M,.bool N,.str O,.ro 129 U true,.ro 9 V true,.bool W,.str X,.int .i64 Y,.int .i64 ad,.int .i64 ae,.int .i64 ap,.int .i64 ar,.ro 32 ax true]),(959,.var 32 [.str a1,.str a6,.str a7,.ro 129 a8 true,.bool bb,.str be,.bool bk,.str bs,.bool bx,.str bP,.bool bS,.str bV,.ro 129 b0 true,.ro 9 b1 true,.bool b2,.str b3,.int .i64 b4,.int .i64 b5,.int .i64 b',.int .i64 ca,.int .i64 cl,.ro 32 cp true]),(960,.row 9 ct true)],ez⟩:St)
noncomputable abbrev G6 {R:Type} (J:JT R):BU R:=fun x0 x1 x2 x3 x4 x5 x6 x7 x8 x9 f j m u z A M N O U V W X Y ad ae ap ar ax a1 a6 a7 a8 bb be bk bs bx bP bS bV b0 b1 b2 b3 b4 b5 b' ca cl=>J (placeOf Tryz.f7 10) (H' x0 x1 x2 x3 x4 x5 x6 x7 x8 x9 f j m u z A M N O U V W X Y ad ae ap ar ax a1 a6 a7 a8 bb be bk bs bx bP bS bV b0 b1 b2 b3 b4 b5 b' ca cl)
noncomputable abbrev Eh {R:Type} (J:JT R):yZ R:=fun x0 x1 x2 x3 x4 x5 x6 x7 x8 x9 f j m u z A M N O U V W X Y ad ae ap ar ax a1 a6 a7 a8 bb be bk bs bx bP bS bV b0 b1 b2 b3 b4 b5 b' ca cl cp=>J (placeOf Tryz.f7 13) (Ia x0 x1 x2 x3 x4 x5 x6 x7 x8 x9 f j m u z A M N O U V W X Y ad ae ap ar ax a1 a6 a7 a8 bb be bk bs bx bP bS bV b0 b1 b2 b3 b4 b5 b' ca cl cp)
noncomputable abbrev Bg {R:Type} (J:JT R):tK R:=fun x0 x1 x2 x3 x4 x5 x6 x7 x8 x9 f j m u z A M N O U V W X Y ad ae ap ar ax a1 a6 a7 a8 bb be bk bs bx bP bS bV b0 b1 b2 b3 b4 b5 b' ca cl cp ct=>J (placeOf Tryz.f7 18) (Ga x0 x1 x2 x3 x4 x5 x6 x7 x8 x9 f j m u z A M N O U V W X Y ad ae ap ar ax a1 a6 a7 a8 bb be bk bs bx bP bS bV b0 b1 b2 b3 b4 b5 b' ca cl cp ct)
theorem II (J:JT R) (κ:KT R) (x0 x1 x2 x3 x4 x5 x6 x7 x8 x9 f j m u z A M N O U V W X Y ad ae ap ar ax a1 a6 a7 a8 bb be bk bs bx bP bS bV b0 b1 b2 b3 b4 b5 b' ca cl:_):S R c1 c2 c3 c4 c5 c6 c7 κ J 10 (H' x0 x1 x2 x3 x4 x5 x6 x7 x8 x9 f j m u z A M N O U V W X Y ad ae ap ar ax a1 a6 a7 a8 bb be bk bs bx bP bS bV b0 b1 b2 b3 b4 b5 b' ca cl)=t10 (Eh J) (K0 κ) x0 x1 x2 x3 x4 x5 x6 x7 x8 x9 f j m u z A M N O U V W X Y ad ae ap ar ax a1 a6 a7 a8 bb be bk bs bx bP bS bV b0 b1 b2 b3 b4 b5 b' ca cl:=by kernel_rfl
theorem IJ (J:JT R) (κ:KT R) (x0 x1 x2 x3 x4 x5 x6 x7 x8 x9 f j m u z A M N O U V W X Y ad ae ap ar ax a1 a6 a7 a8 bb be bk bs bx bP bS bV b0 b1 b2 b3 b4 b5 b' ca cl cp:_):S R c1 c2 c3 c4 c5 c6 c7 κ J 13 (Ia x0 x1 x2 x3 x4 x5 x6 x7 x8 x9 f j m u z A M N O U V W X Y ad ae ap ar ax a1 a6 a7 a8 bb be bk bs bx bP bS bV b0 b1 b2 b3 b4 b5 b' ca cl cp)=t13 (G6 J) (Bg J) x0 x1 x2 x3 x4 x5 x6 x7 x8 x9 f j m u z A M N O U V W X Y ad ae ap ar ax a1 a6 a7 a8 bb be bk bs bx bP bS bV b0 b1 b2 b3 b4 b5 b' ca cl cp:=by kernel_rfl
theorem HO (J:JT R) (κ:KT R) (x0 x1 x2 x3 x4 x5 x6 x7 x8 x9 f j m u z A M N O U V W X Y ad ae ap ar ax a1 a6 a7 a8 bb be bk bs bx bP bS bV b0 b1 b2 b3 b4 b5 b' ca cl cp ct:_):S R c1 c2 c3 c4 c5 c6 c7 κ J 18 (Ga x0 x1 x2 x3 x4 x5 x6 x7 x8 x9 f j m u z A M N O U V W X Y ad ae ap ar ax a1 a6 a7 a8 bb be bk bs bx bP bS bV b0 b1 b2 b3 b4 b5 b' ca cl cp ct)=t18 c5 c6 c7 (Eh J) (K0 κ) x0 x1 x2 x3 x4 x5 x6 x7 x8 x9 f j m u z A M N O U V W X Y ad ae ap ar ax a1 a6 a7 a8 bb be bk bs bx bP bS bV b0 b1 b2 b3 b4 b5 b' ca cl cp ct:=by kernel_rfl
theorem k (κ:KT R) (k:Nat) (a0 a1 a2 a3 a4:_):cA (C R c1 c2 c3 c4 c5 c6 c7) Tryz.f7 10000 k [.str a0,.str a1,.str a2,.int .i64 a3,.ro 9 a4 true] κ=aG.e c1 c2 c3 c4 c5 c6 c7 a0 a1 a2 a3 a4 (G6 (G R c1 c2 c3 c4 c5 c6 c7 κ k)) (Eh (G R c1 c2 c3 c4 c5 c6 c7 κ k)) (Bg (G R c1 c2 c3 c4 c5 c6 c7 κ k)) (K0 κ):=by kernel_rfl
theorem EQ (κ:KT R):∀ (f:Nat),(G6 (G R c1 c2 c3 c4 c5 c6 c7 κ f)=Ap c1 c2 c3 c4 c5 c6 c7 (K0 κ) f)/\(Eh (G R c1 c2 c3 c4 c5 c6 c7 κ f)=u6 c1 c2 c3 c4 c5 c6 c7 (K0 κ) f)/\(Bg (G R c1 c2 c3 c4 c5 c6 c7 κ f)=rj c1 c2 c3 c4 c5 c6 c7 (K0 κ) f)
 | 0=>⟨rfl,rfl,rfl⟩
 | f+1=>by
  obtain ⟨c0,j,c'⟩:=EQ κ f
  refine ⟨?_,?_,?_⟩
  ·funext x0 x1 x2 x3 x4 x5 x6 x7 x8 x9 m u z A M N O U V W X Y ad ae ap ar ax a1 a6 a7 a8 bb be bk bs bx bP bS bV b0 b1 b2 b3 b4 b5 b' ca cl cp ct
   show S R c1 c2 c3 c4 c5 c6 c7 κ (G R c1 c2 c3 c4 c5 c6 c7 κ f) 10 _=_
   rw [II,j]
   rfl
  ·funext x0 x1 x2 x3 x4 x5 x6 x7 x8 x9 m u z A M N O U V W X Y ad ae ap ar ax a1 a6 a7 a8 bb be bk bs bx bP bS bV b0 b1 b2 b3 b4 b5 b' ca cl cp ct dg
   show S R c1 c2 c3 c4 c5 c6 c7 κ (G R c1 c2 c3 c4 c5 c6 c7 κ f) 13 _=_
   rw [IJ,c0,c']
   rfl
  ·funext x0 x1 x2 x3 x4 x5 x6 x7 x8 x9 m u z A M N O U V W X Y ad ae ap ar ax a1 a6 a7 a8 bb be bk bs bx bP bS bV b0 b1 b2 b3 b4 b5 b' ca cl cp ct dg dr
   show S R c1 c2 c3 c4 c5 c6 c7 κ (G R c1 c2 c3 c4 c5 c6 c7 κ f) 18 _=_
   rw [HO,j]
   rfl
theorem g10 (κ:KT R) (f:Nat):G6 (G R c1 c2 c3 c4 c5 c6 c7 κ f)=Ap c1 c2 c3 c4 c5 c6 c7 (K0 κ) f:=(EQ R c1 c2 c3 c4 c5 c6 c7 κ f).1
theorem g13 (κ:KT R) (f:Nat):Eh (G R c1 c2 c3 c4 c5 c6 c7 κ f)=u6 c1 c2 c3 c4 c5 c6 c7 (K0 κ) f:=(EQ R c1 c2 c3 c4 c5 c6 c7 κ f).2.1
theorem g18 (κ:KT R) (f:Nat):Bg (G R c1 c2 c3 c4 c5 c6 c7 κ f)=rj c1 c2 c3 c4 c5 c6 c7 (K0 κ) f:=(EQ R c1 c2 c3 c4 c5 c6 c7 κ f).2.2
end
theorem ae {R:Type} (tab:cg) (f:ay tab) (g:Nat):bT (R:=R) Tryz.prog (ag br) tab g ((C R b8 bh bO aM aW bz bd).call g):=by
 refine aI fun xs κ => ?_
 show aa _ _ _ g xs κ (Γ R b8 bh bO aM aW bz bd g xs κ)
 unfold Γ
 split
 ·split
  ·exact b8.aF tab f κ
  ·exact aa.none
 ·split
  ·exact bh.aF tab f _ κ
  ·exact aa.none
 ·split
  ·exact bO.aF tab f _ κ
  ·exact aa.none
 ·split
  ·exact aM.aF tab f _ _ _ _ _ _ _ _ _ _ _ _ _ _ _ _ _ _ _ _ _ _ κ
  ·exact aa.none
 ·split
  ·exact aW.aF tab f _ _ _ _ _ _ _ _ _ _ _ _ _ _ _ _ _ _ _ _ _ _ _ _ _ _ κ
  ·exact aa.none
 ·split
  ·exact bz.aF tab f _ _ κ
  ·exact aa.none
 ·split
  ·exact bd.aF tab f _ _ _ _ _ _ _ _ _ _ _ _ _ _ _ _ _ _ _ _ _ _ _ _ _ _ κ
  ·exact aa.none
 ·exact aa.none
theorem aF {R:Type} (tab:cg) (f:ay tab) (a0 a1 a2 a3 a4:_) (κ:KT R):aa Tryz.prog (ag br) tab 7 [.str a0,.str a1,.str a2,.int .i64 a3,.ro 9 a4 true] κ (aG a0 a1 a2 a3 a4 (K0 κ)):=aj (C:=C R b8 bh bO aM aW bz bd) (fn:=Tryz.f7) cE (ae tab f) (by kernel_rfl) (by kernel_rfl) (by rw [k];rw [g10 R b8 bh bO aM aW bz bd κ ah,g13 R b8 bh bO aM aW bz bd κ ah,g18 R b8 bh bO aM aW bz bd κ ah];rfl)
end aG
end Go.Proofs.Ab
