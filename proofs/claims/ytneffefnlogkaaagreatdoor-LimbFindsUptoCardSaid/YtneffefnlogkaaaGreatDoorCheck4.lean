/- Each plain function is what a call of its Go function does, checked by the kernel (no condition but what its checks ask). -/
import Derived.Test.YtneffefnlogkaaaGreatDoorSeat
import Derived.Test.YtneffefnlogkaaaGreatDoorText
import Derived.Test.YtneffefnlogkaaaGreatDoorCheck3
set_option linter.unusedVariables false
set_option linter.unusedSimpArgs false
set_option maxRecDepth 4000
namespace Go.Proofs.Ab
open Go Go.Proofs
set_option maxRecDepth 100000
namespace bp
abbrev K0 {R:Type} (κ : KT R):Bool->Option R:=fun f=>κ [.bool f]
section
variable (R:Type) (c1:cm.F R) (c2:bu.F R) (c3:b7.F R) (c4:aR.F R) (c5:dh.F R) (c6:bR.F R) (c7:bz.F R)
def Γ (g:Nat) (xs:List SV) (κ : KT R):Option R :=
 match g with
 | 12=>(match xs with
  | []=>c1 (cm.K0 κ)
  | _=>none)
 | 13=>(match xs with
  | [.agg [.str a0,.str a1,.str a2,.ro 129 a3 false,.bool a4,.str a5,.bool V,.str W,.bool X,.str a9,.bool f,.str j,.ro 129 a12 false,.ro 9 m false,.bool u,.str z,.int .i64 A,.int .i64 M,.int .i64 N,.int .i64 O,.int .i64 a20,.ro 32 a21 false],.agg [.str U,.str a23,.str a24,.ro 129 a25 true,.bool a26,.str a27,.bool a28,.str a29,.bool a30,.str a31,.bool a32,.str a33,.ro 129 a34 true,.ro 9 a35 true,.bool a36,.str a37,.int .i64 a38,.int .i64 a39,.int .i64 a40,.int .i64 a41,.int .i64 a42,.ro 32 a43 true]]=>c7 a0 a1 a2 a3 a4 a5 V W X a9 f j a12 m u z A M N O a20 a21 U a23 a24 a25 a26 a27 a28 a29 a30 a31 a32 a33 a34 a35 a36 a37 a38 a39 a40 a41 a42 a43 (bz.K0 κ)
  | _=>none)
 | 14=>(match xs with
  | [.str a0]=>c2 a0 (bu.K0 κ)
  | _=>none)
 | 15=>(match xs with
  | [.str a0]=>c3 a0 (b7.K0 κ)
  | _=>none)
 | 21=>(match xs with
  | [.agg [.str a0,.str a1,.str a2,.ro 129 a3 true,.bool a4,.str a5,.bool V,.str W,.bool X,.str a9,.bool f,.str j,.ro 129 a12 true,.ro 9 m true,.bool u,.str z,.int .i64 A,.int .i64 M,.int .i64 N,.int .i64 O,.int .i64 a20,.ro 32 a21 true]]=>c4 a0 a1 a2 a3 a4 a5 V W X a9 f j a12 m u z A M N O a20 a21 (aR.K0 κ)
  | _=>none)
 | 22=>(match xs with
  | [.agg [.str a0,.str a1,.str a2,.ro 129 a3 true,.bool a4,.str a5,.bool V,.str W,.bool X,.str a9,.bool f,.str j,.ro 129 a12 true,.ro 9 m true,.bool u,.str z,.int .i64 A,.int .i64 M,.int .i64 N,.int .i64 O,.int .i64 a20,.ro 32 a21 true],.str U]=>c5 a0 a1 a2 a3 a4 a5 V W X a9 f j a12 m u z A M N O a20 a21 U (dh.K0 κ) (dh.K1 κ) (dh.K2 κ)
  | _=>none)
 | 23=>(match xs with
  | [.agg [.str a0,.str a1,.str a2,.ro 129 a3 true,.bool a4,.str a5,.bool V,.str W,.bool X,.str a9,.bool f,.str j,.ro 129 a12 true,.ro 9 m true,.bool u,.str z,.int .i64 A,.int .i64 M,.int .i64 N,.int .i64 O,.int .i64 a20,.ro 32 a21 true],.str U]=>c6 a0 a1 a2 a3 a4 a5 V W X a9 f j a12 m u z A M N O a20 a21 U (bR.K0 κ) (bR.K1 κ)
  | _=>none)
 | _=>none
def h (n:Nat):Option (List (Nat × List (Nat × Nat))) :=
 match n with
 | 10=>some [(6,[(0,0)]),(7,[(0,0)]),(8,[(0,0)]),(9,[(0,0)])]
 | 13=>some [(6,[(0,0)]),(7,[(0,0)]),(8,[(0,0)]),(9,[(0,0)]),(10,[(3,131),(12,131),(13,11),(21,34)]),(11,[(0,0)])]
 | 14=>some [(6,[(0,0)]),(7,[(0,0)]),(8,[(0,0)]),(9,[(0,0)]),(10,[(0,0)]),(11,[(0,0)]),(12,[(3,131),(3,1),(12,131),(12,1),(13,11),(13,1),(21,34),(21,1)]),(13,[(0,0)])]
 | _=>none
def C:Cfg R:=⟨af bm,Γ R c1 c2 c3 c4 c5 c6 c7,fun _=>false,h,0,fun _=>false⟩
noncomputable def S:=S0 (C R c1 c2 c3 c4 c5 c6 c7) Tryz.f6 0
noncomputable def G:=G0 (C R c1 c2 c3 c4 c5 c6 c7) Tryz.f6 0
def HY:=fun x0 x1 x2 x3 x4 x5 x6 x7 x8 x9 f j m u z A M N O U V W X Y ad ae ap ar ax a1 a6 a7 a8 bb be bk bs bx bP bS bV b0 b1 b2 b3 b4=>(⟨er 62 [(6,.ptr 511 0),(7,.ptr 575 0),(8,.own 576),(9,.int .i64 x0)],[(511,.var 32 [.str x1,.str x2,.str x3,.ro 129 x4 true,.bool x5,.str x6,.bool x7,.str x8,.bool x9,.str f,.bool j,.str m,.ro 129 u true,.ro 9 z true,.bool A,.str M,.int .i64 N,.int .i64 O,.int .i64 U,.int .i64 V,.int .i64 W,.ro 32 X true]),(575,.var 32 [.str Y,.str ad,.str ae,.ro 129 ap true,.bool ar,.str ax,.bool a1,.str a6,.bool a7,.str a8,.bool bb,.str be,.ro 129 bk true,.ro 9 bs true,.bool bx,.str bP,.int .i64 bS,.int .i64 bV,.int .i64 b0,.int .i64 b1,.int .i64 b2,.ro 32 b3 true]),(576,.row 9 b4 true)],eo⟩:St)
def GS:=fun x0 x1 x2 x3 x4 x5 x6 x7 x8 x9 f j m u z A M N O U V W X Y ad ae ap ar ax a1 a6 a7 a8 bb be bk bs bx bP bS bV b0 b1 b2 b3 b4 b5 b' ca cl cp ct c0 c' dg dr d' ea eb ed ei ek en ep et ey e0 e1 e2=>(⟨er 62 [(6,.ptr 511 0),(7,.ptr 575 0),(8,.own 576),(9,.int .i64 x0),(10,.ptr 767 0),(11,.bool x1)],[(511,.var 32 [.str x2,.str x3,.str x4,.ro 129 x5 true,.bool x6,.str x7,.bool x8,.str x9,.bool f,.str j,.bool m,.str u,.ro 129 z true,.ro 9 A true,.bool M,.str N,.int .i64 O,.int .i64 U,.int .i64 V,.int .i64 W,.int .i64 X,.ro 32 Y true]),(575,.var 32 [.str ad,.str ae,.str ap,.ro 129 ar true,.bool ax,.str a1,.bool a6,.str a7,.bool a8,.str bb,.bool be,.str bk,.ro 129 bs true,.ro 9 bx true,.bool bP,.str bS,.int .i64 bV,.int .i64 b0,.int .i64 b1,.int .i64 b2,.int .i64 b3,.ro 32 b4 true]),(576,.row 9 b5 true),(767,.var 32 [.str b',.str ca,.str cl,.own 707,.bool cp,.str ct,.bool c0,.str c',.bool dg,.str dr,.bool d',.str ea,.own 716,.own 717,.bool eb,.str ed,.int .i64 ei,.int .i64 ek,.int .i64 en,.int .i64 ep,.int .i64 et,.own 725]),(707,.row 129 ey true),(716,.row 129 e0 true),(717,.row 9 e1 true),(725,.row 32 e2 true)],eo⟩:St)
def AP:=fun x0 x1 x2 x3 x4 x5 x6 x7 x8 x9 f j m u z A M N O U V W X Y ad ae ap ar ax a1 a6 a7 a8 bb be bk bs bx bP bS bV b0 b1 b2 b3 b4 b5 b' ca cl cp ct c0 c' dg dr d' ea eb ed ei ek en ep et ey e0 e1 e2 e3 e4 e5 e' fl fo fr fs fu fz gb gr g' ha hb hc hd hf hg hh hi hj hk=>(⟨er 62 [(6,.ptr 511 0),(7,.ptr 575 0),(8,.own 576),(9,.int .i64 x0),(10,.ptr 767 0),(11,.bool x1),(12,.ptr 895 0),(13,.bool x2)],[(511,.var 32 [.str x3,.str x4,.str x5,.ro 129 x6 true,.bool x7,.str x8,.bool x9,.str f,.bool j,.str m,.bool u,.str z,.ro 129 A true,.ro 9 M true,.bool N,.str O,.int .i64 U,.int .i64 V,.int .i64 W,.int .i64 X,.int .i64 Y,.ro 32 ad true]),(575,.var 32 [.str ae,.str ap,.str ar,.ro 129 ax true,.bool a1,.str a6,.bool a7,.str a8,.bool bb,.str be,.bool bk,.str bs,.ro 129 bx true,.ro 9 bP true,.bool bS,.str bV,.int .i64 b0,.int .i64 b1,.int .i64 b2,.int .i64 b3,.int .i64 b4,.ro 32 b5 true]),(576,.row 9 b' true),(767,.var 32 [.str ca,.str cl,.str cp,.own 707,.bool ct,.str c0,.bool c',.str dg,.bool dr,.str d',.bool ea,.str eb,.own 716,.own 717,.bool ed,.str ei,.int .i64 ek,.int .i64 en,.int .i64 ep,.int .i64 et,.int .i64 ey,.own 725]),(707,.row 129 e0 true),(716,.row 129 e1 true),(717,.row 9 e2 true),(725,.row 32 e3 true),(895,.var 32 [.str e4,.str e5,.str e',.ro 129 fl true,.bool fo,.str fr,.bool fs,.str fu,.bool fz,.str gb,.bool gr,.str g',.ro 129 ha true,.ro 9 hb true,.bool hc,.str hd,.int .i64 hf,.int .i64 hg,.int .i64 hh,.int .i64 hi,.int .i64 hj,.ro 32 hk true])],eo⟩:St)
noncomputable abbrev G7 {R:Type} (J:JT R):FZ R:=fun x0 x1 x2 x3 x4 x5 x6 x7 x8 x9 f j m u z A M N O U V W X Y ad ae ap ar ax a1 a6 a7 a8 bb be bk bs bx bP bS bV b0 b1 b2 b3 b4=>J (placeOf Tryz.f6 10) (HY x0 x1 x2 x3 x4 x5 x6 x7 x8 x9 f j m u z A M N O U V W X Y ad ae ap ar ax a1 a6 a7 a8 bb be bk bs bx bP bS bV b0 b1 b2 b3 b4)
noncomputable abbrev DW {R:Type} (J:JT R):zh R:=fun x0 x1 x2 x3 x4 x5 x6 x7 x8 x9 f j m u z A M N O U V W X Y ad ae ap ar ax a1 a6 a7 a8 bb be bk bs bx bP bS bV b0 b1 b2 b3 b4 b5 b' ca cl cp ct c0 c' dg dr d' ea eb ed ei ek en ep et ey e0 e1 e2=>J (placeOf Tryz.f6 13) (GS x0 x1 x2 x3 x4 x5 x6 x7 x8 x9 f j m u z A M N O U V W X Y ad ae ap ar ax a1 a6 a7 a8 bb be bk bs bx bP bS bV b0 b1 b2 b3 b4 b5 b' ca cl cp ct c0 c' dg dr d' ea eb ed ei ek en ep et ey e0 e1 e2)
noncomputable abbrev yS {R:Type} (J:JT R):qL R:=fun x0 x1 x2 x3 x4 x5 x6 x7 x8 x9 f j m u z A M N O U V W X Y ad ae ap ar ax a1 a6 a7 a8 bb be bk bs bx bP bS bV b0 b1 b2 b3 b4 b5 b' ca cl cp ct c0 c' dg dr d' ea eb ed ei ek en ep et ey e0 e1 e2 e3 e4 e5 e' fl fo fr fs fu fz gb gr g' ha hb hc hd hf hg hh hi hj hk=>J (placeOf Tryz.f6 14) (AP x0 x1 x2 x3 x4 x5 x6 x7 x8 x9 f j m u z A M N O U V W X Y ad ae ap ar ax a1 a6 a7 a8 bb be bk bs bx bP bS bV b0 b1 b2 b3 b4 b5 b' ca cl cp ct c0 c' dg dr d' ea eb ed ei ek en ep et ey e0 e1 e2 e3 e4 e5 e' fl fo fr fs fu fz gb gr g' ha hb hc hd hf hg hh hi hj hk)
theorem H' (J:JT R) (κ : KT R) (x0 x1 x2 x3 x4 x5 x6 x7 x8 x9 f j m u z A M N O U V W X Y ad ae ap ar ax a1 a6 a7 a8 bb be bk bs bx bP bS bV b0 b1 b2 b3 b4:_):S R c1 c2 c3 c4 c5 c6 c7 κ J 10 (HY x0 x1 x2 x3 x4 x5 x6 x7 x8 x9 f j m u z A M N O U V W X Y ad ae ap ar ax a1 a6 a7 a8 bb be bk bs bx bP bS bV b0 b1 b2 b3 b4)=t10 c5 (DW J) (K0 κ) x0 x1 x2 x3 x4 x5 x6 x7 x8 x9 f j m u z A M N O U V W X Y ad ae ap ar ax a1 a6 a7 a8 bb be bk bs bx bP bS bV b0 b1 b2 b3 b4:=by kernel_rfl
theorem Hp (J:JT R) (κ : KT R) (x0 x1 x2 x3 x4 x5 x6 x7 x8 x9 f j m u z A M N O U V W X Y ad ae ap ar ax a1 a6 a7 a8 bb be bk bs bx bP bS bV b0 b1 b2 b3 b4 b5 b' ca cl cp ct c0 c' dg dr d' ea eb ed ei ek en ep et ey e0 e1 e2:_):S R c1 c2 c3 c4 c5 c6 c7 κ J 13 (GS x0 x1 x2 x3 x4 x5 x6 x7 x8 x9 f j m u z A M N O U V W X Y ad ae ap ar ax a1 a6 a7 a8 bb be bk bs bx bP bS bV b0 b1 b2 b3 b4 b5 b' ca cl cp ct c0 c' dg dr d' ea eb ed ei ek en ep et ey e0 e1 e2)=t13 c6 (yS J) x0 x1 x2 x3 x4 x5 x6 x7 x8 x9 f j m u z A M N O U V W X Y ad ae ap ar ax a1 a6 a7 a8 bb be bk bs bx bP bS bV b0 b1 b2 b3 b4 b5 b' ca cl cp ct c0 c' dg dr d' ea eb ed ei ek en ep et ey e0 e1 e2:=by kernel_rfl
theorem Gt (J:JT R) (κ : KT R) (x0 x1 x2 x3 x4 x5 x6 x7 x8 x9 f j m u z A M N O U V W X Y ad ae ap ar ax a1 a6 a7 a8 bb be bk bs bx bP bS bV b0 b1 b2 b3 b4 b5 b' ca cl cp ct c0 c' dg dr d' ea eb ed ei ek en ep et ey e0 e1 e2 e3 e4 e5 e' fl fo fr fs fu fz gb gr g' ha hb hc hd hf hg hh hi hj hk:_):S R c1 c2 c3 c4 c5 c6 c7 κ J 14 (AP x0 x1 x2 x3 x4 x5 x6 x7 x8 x9 f j m u z A M N O U V W X Y ad ae ap ar ax a1 a6 a7 a8 bb be bk bs bx bP bS bV b0 b1 b2 b3 b4 b5 b' ca cl cp ct c0 c' dg dr d' ea eb ed ei ek en ep et ey e0 e1 e2 e3 e4 e5 e' fl fo fr fs fu fz gb gr g' ha hb hc hd hf hg hh hi hj hk)=t14 c7 (G7 J) (K0 κ) x0 x1 x2 x3 x4 x5 x6 x7 x8 x9 f j m u z A M N O U V W X Y ad ae ap ar ax a1 a6 a7 a8 bb be bk bs bx bP bS bV b0 b1 b2 b3 b4 b5 b' ca cl cp ct c0 c' dg dr d' ea eb ed ei ek en ep et ey e0 e1 e2 e3 e4 e5 e' fl fo fr fs fu fz gb gr g' ha hb hc hd hf hg hh hi hj hk:=by kernel_rfl
theorem k (κ : KT R) (k:Nat) (a0 a1:_):cr (C R c1 c2 c3 c4 c5 c6 c7) Tryz.f6 10000 k [.str a0,.str a1] κ = bp.e c1 c2 c3 c4 c5 c6 c7 a0 a1 (G7 (G R c1 c2 c3 c4 c5 c6 c7 κ k)) (DW (G R c1 c2 c3 c4 c5 c6 c7 κ k)) (yS (G R c1 c2 c3 c4 c5 c6 c7 κ k)) (K0 κ):=by kernel_rfl
theorem DB (κ : KT R):∀ (f:Nat),(G7 (G R c1 c2 c3 c4 c5 c6 c7 κ f)=EN c1 c2 c3 c4 c5 c6 c7 (K0 κ) f)/\(DW (G R c1 c2 c3 c4 c5 c6 c7 κ f)=wq c1 c2 c3 c4 c5 c6 c7 (K0 κ) f)/\(yS (G R c1 c2 c3 c4 c5 c6 c7 κ f)=sO c1 c2 c3 c4 c5 c6 c7 (K0 κ) f)
 | 0=>⟨rfl,rfl,rfl⟩
 | f+1=>by
  obtain ⟨b',ca,cl⟩:=DB κ f
  refine ⟨?_,?_,?_⟩
  ·funext x0 x1 x2 x3 x4 x5 x6 x7 x8 x9 j m u z A M N O U V W X Y ad ae ap ar ax a1 a6 a7 a8 bb be bk bs bx bP bS bV b0 b1 b2 b3 b4 b5
   show S R c1 c2 c3 c4 c5 c6 c7 κ (G R c1 c2 c3 c4 c5 c6 c7 κ f) 10 _=_
   rw [H',ca]
   rfl
  ·funext x0 x1 x2 x3 x4 x5 x6 x7 x8 x9 j m u z A M N O U V W X Y ad ae ap ar ax a1 a6 a7 a8 bb be bk bs bx bP bS bV b0 b1 b2 b3 b4 b5 cp ct c0 c' dg dr d' ea eb ed ei ek en ep et ey e0 e1 e2 e3 e4 e5 e'
   show S R c1 c2 c3 c4 c5 c6 c7 κ (G R c1 c2 c3 c4 c5 c6 c7 κ f) 13 _=_
   rw [Hp,cl]
   rfl
  ·funext x0 x1 x2 x3 x4 x5 x6 x7 x8 x9 j m u z A M N O U V W X Y ad ae ap ar ax a1 a6 a7 a8 bb be bk bs bx bP bS bV b0 b1 b2 b3 b4 b5 cp ct c0 c' dg dr d' ea eb ed ei ek en ep et ey e0 e1 e2 e3 e4 e5 e' fl fo fr fs fu fz gb gr g' ha hb hc hd hf hg hh hi hj hk hl hn ho hp
   show S R c1 c2 c3 c4 c5 c6 c7 κ (G R c1 c2 c3 c4 c5 c6 c7 κ f) 14 _=_
   rw [Gt,b']
   rfl
theorem g10 (κ : KT R) (f:Nat):G7 (G R c1 c2 c3 c4 c5 c6 c7 κ f)=EN c1 c2 c3 c4 c5 c6 c7 (K0 κ) f:=(DB R c1 c2 c3 c4 c5 c6 c7 κ f).1
theorem g13 (κ : KT R) (f:Nat):DW (G R c1 c2 c3 c4 c5 c6 c7 κ f)=wq c1 c2 c3 c4 c5 c6 c7 (K0 κ) f:=(DB R c1 c2 c3 c4 c5 c6 c7 κ f).2.1
theorem g14 (κ : KT R) (f:Nat):yS (G R c1 c2 c3 c4 c5 c6 c7 κ f)=sO c1 c2 c3 c4 c5 c6 c7 (K0 κ) f:=(DB R c1 c2 c3 c4 c5 c6 c7 κ f).2.2
end
theorem ae {R:Type} (tab:bZ) (f:aq tab) (g:Nat):bM (R:=R) Tryz.prog (af bm) tab g ((C R cm bu b7 aR dh bR bz).call g):=by
 refine aF fun xs κ => ?_
 show aa _ _ _ g xs κ (Γ R cm bu b7 aR dh bR bz g xs κ)
 unfold Γ
 split
 ·split
  ·exact cm.aG tab f κ
  ·exact aa.none
 ·split
  ·exact bz.aG tab f _ _ _ _ _ _ _ _ _ _ _ _ _ _ _ _ _ _ _ _ _ _ _ _ _ _ _ _ _ _ _ _ _ _ _ _ _ _ _ _ _ _ _ _ κ
  ·exact aa.none
 ·split
  ·exact bu.aG tab f _ κ
  ·exact aa.none
 ·split
  ·exact b7.aG tab f _ κ
  ·exact aa.none
 ·split
  ·exact aR.aG tab f _ _ _ _ _ _ _ _ _ _ _ _ _ _ _ _ _ _ _ _ _ _ κ
  ·exact aa.none
 ·split
  ·exact dh.aG tab f _ _ _ _ _ _ _ _ _ _ _ _ _ _ _ _ _ _ _ _ _ _ _ κ
  ·exact aa.none
 ·split
  ·exact bR.aG tab f _ _ _ _ _ _ _ _ _ _ _ _ _ _ _ _ _ _ _ _ _ _ _ κ
  ·exact aa.none
 ·exact aa.none
theorem aG {R:Type} (tab:bZ) (f:aq tab) (a0 a1:_) (κ : KT R):aa Tryz.prog (af bm) tab 6 [.str a0,.str a1] κ (bp a0 a1 (K0 κ)):=ah (C:=C R cm bu b7 aR dh bR bz) (fn:=Tryz.f6) cz (ae tab f) (by kernel_rfl) (by kernel_rfl) (by rw [k];rw [g10 R cm bu b7 aR dh bR bz κ ag,g13 R cm bu b7 aR dh bR bz κ ag,g14 R cm bu b7 aR dh bR bz κ ag];rfl)
end bp
end Go.Proofs.Ab
