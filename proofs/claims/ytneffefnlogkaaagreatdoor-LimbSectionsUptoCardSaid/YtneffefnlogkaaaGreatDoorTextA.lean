/- What each function computes, as a plain Lean function, printed by a program of ours (definitions alone). -/
import Derived.Test.YtneffefnlogkaaaGreatDoorAbC
set_option linter.unusedVariables false
set_option linter.unusedSimpArgs false
set_option maxRecDepth 4000
open Go.IntKind (wrap)
namespace Go.Proofs.Ab
open Go
abbrev BA:=ByteArray
abbrev LA:=List AV
abbrev Y1:=Option
abbrev Y2:=UInt8
abbrev Y3:=Bool
abbrev T0 (R:Type):Type:=Y3->BA->Y3->BA->Y3->BA->Y3->BA->LA->LA->Y3->BA->Int->Int->Int->Int->Int->LA->Y1 R
abbrev T1 (R:Type):Type:=BA->BA->BA->Y3->BA->Y3->BA->Y3->BA->Y3->BA->Y3->BA->Int->Int->Int->Int->Int->Y3->Y1 R
abbrev T2 (R:Type):Type:=BA->BA->BA->LA->Y3->BA->Y3->BA->Y3->BA->Y3->BA->LA->LA->Y3->BA->Int->Int->Int->Int->Int->LA->Y3->Y1 R
abbrev T3 (R:Type):Type:=BA->BA->BA->LA->Y3->BA->Y3->BA->Y3->BA->Y3->BA->LA->LA->Y3->BA->Int->Int->Int->Int->Int->Y1 R
abbrev T4 (R:Type):Type:=BA->BA->BA->LA->Y3->BA->Y3->BA->Y3->BA->Y3->BA->LA->LA->Y3->BA->Int->Int->Int->Int->Int->LA->BA->BA->BA->Y3->BA->Y3->BA->Y3->BA->Y3->BA->Y3->BA->Int->Int->Int->Int->Int->LA->Y1 R
abbrev T5 (R:Type):Type:=Int->BA->BA->BA->LA->Y3->BA->Y3->BA->Y3->BA->Y3->BA->LA->LA->Y3->BA->Int->Int->Int->Int->Int->LA->BA->BA->BA->Y3->BA->Y3->BA->Y3->BA->Y3->BA->Y3->BA->Int->Int->Int->Int->Int->Y1 R
abbrev T6 (R:Type):Type:=Int->BA->BA->BA->LA->Y3->BA->Y3->BA->Y3->BA->Y3->BA->LA->LA->Y3->BA->Int->Int->Int->Int->Int->LA->BA->BA->BA->LA->Y3->BA->Y3->BA->Y3->BA->Y3->BA->LA->LA->Y3->BA->Int->Int->Int->Int->Int->LA->LA->Y1 R
abbrev T7 (R:Type):Type:=BA->BA->BA->LA->Y3->BA->Y3->BA->Y3->BA->Y3->BA->LA->LA->Y3->BA->Int->Int->Int->Int->Int->LA->Int->Y1 R
abbrev T8 (R:Type):Type:=BA->BA->BA->LA->Y3->BA->Y3->BA->Y3->BA->Y3->BA->LA->LA->Y3->BA->Int->Int->Int->Int->Int->BA->Int->Y1 R
abbrev T9 (R:Type):Type:=BA->Int->Y3->Int->Y3->BA->BA->BA->LA->Y3->BA->Y3->BA->Y3->BA->Y3->BA->LA->LA->Y3->BA->Int->Int->Int->Int->Int->BA->BA->BA->Y3->BA->Y3->BA->Y3->BA->Y3->BA->Y3->BA->Int->Int->Int->Int->Int->Y1 R
abbrev Y0 (R:Type):Type:=BA->BA->BA->LA->Y3->BA->Y3->BA->Y3->BA->Y3->BA->LA->LA->Y3->BA->Int->Int->Int->Int->Int->BA->BA->BA->Y3->BA->Y3->BA->Y3->BA->Y3->BA->Y3->BA->Int->Int->Int->Int->Int->LA->Y1 R
abbrev b9.F (R:Type):Type:=BA->BA->(Y3->Y1 R)->Y1 R
namespace b9
def e {R:Type} (a0 a1:BA) (f:Y3->Y1 R):Y1 R:=
 (bif decide ((a0.size:Int)>=(a1.size:Int)) then (bo (decide (0<=(a1.size:Int))&&decide ((a1.size:Int)<=(a0.size:Int))) (f (decide ((a0.extract ((0:Int)).toNat ((a1.size:Int)).toNat)=a1)))) else (f false))
end b9
def b9 {R:Type}:b9.F R:=fun a0 a1 f=>b9.e a0 a1 f
abbrev bc.F (R:Type):Type:=BA->BA->(Y3->Y1 R)->Y1 R
namespace bc
def e {R:Type} (c1:b9.F R) (a0 a1:BA) (f:Y3->Y1 R):Y1 R:=
 (c1 a0 a1 (fun j=>(f j)))
end bc
def bc {R:Type}:bc.F R:=fun a0 a1 f=>bc.e b9 a0 a1 f
abbrev dk.F (R:Type):Type:=BA->Int->(Int->Y1 R)->Y1 R
def dk {R:Type} (a0:BA) (a1:Int) (f:Int->Y1 R):Y1 R:=f (Lib.indexByte a0.data.toList a1.toNat.toUInt8)
abbrev cx.F (R:Type):Type:=BA->Int->(Int->Y1 R)->Y1 R
namespace cx
def e {R:Type} (c1:dk.F R) (a0:BA) (a1:Int) (f:Int->Y1 R):Y1 R:=
 (c1 a0 a1 (fun j=>(f j)))
end cx
def cx {R:Type}:cx.F R:=fun a0 a1 f=>cx.e dk a0 a1 f
abbrev ef.F (R:Type):Type:=BA->BA->(Int->Y1 R)->Y1 R
def ef {R:Type} (a0 a1:BA) (f:Int->Y1 R):Y1 R:=bo (decide (a0.size<4294967281∨a1=⟨#[46]⟩)) (f (Lib.index a0.data.toList a1.data.toList))
abbrev aO.F (R:Type):Type:=BA->BA->(Int->Y1 R)->Y1 R
namespace aO
def e {R:Type} (c1:ef.F R) (a0 a1:BA) (f:Int->Y1 R):Y1 R:=
 (c1 a0 a1 (fun j=>(f j)))
end aO
def aO {R:Type}:aO.F R:=fun a0 a1 f=>aO.e ef a0 a1 f
abbrev dN.F (R:Type):Type:=BA->(BA->BA->Y1 R)->Y1 R
namespace dN
def e {R:Type} (c1:bc.F R) (c2:aO.F R) (a0:BA) (f:BA->BA->Y1 R):Y1 R:=
 (c1 a0 (⟨#[13,10]⟩:BA) (fun m=>(bif m then (bo (decide ((2:Int)<=(a0.size:Int))) (bo (decide ((2:Int)<=(a0.size:Int))&&decide ((a0.size:Int)<=(a0.size:Int))) (f (a0.extract ((0:Int)).toNat ((2:Int)).toNat) (a0.extract ((2:Int)).toNat ((a0.size:Int)).toNat)))) else (c2 a0 (⟨#[13,10,13,10]⟩:BA) (fun j=>(bif decide (j>=0) then (bo ((decide (0<=(wrap .i64 (j+4))))&&(decide ((wrap .i64 (j+4))<=(a0.size:Int)))) (bo ((decide (0<=(wrap .i64 (j+4))))&&((decide ((wrap .i64 (j+4))<=(a0.size:Int)))&&(decide ((a0.size:Int)<=(a0.size:Int))))) (f (a0.extract ((0:Int)).toNat ((wrap .i64 (j+4))).toNat) (a0.extract ((wrap .i64 (j+4))).toNat ((a0.size:Int)).toNat)))) else (f a0 (⟨#[]⟩:BA))))))))
end dN
def dN {R:Type}:dN.F R:=fun a0 f=>dN.e bc aO a0 f
abbrev aY.F (R:Type):Type:=Int->(Y3->Y1 R)->Y1 R
namespace aY
def e {R:Type} (a0:Int) (f:Y3->Y1 R):Y1 R:=
 (bif (a0 == 32) then (f true) else (f (a0 == 9)))
end aY
def aY {R:Type}:aY.F R:=fun a0 f=>aY.e a0 f
abbrev bZ.F (R:Type):Type:=BA->(BA->Y3->Y1 R)->Y1 R
namespace bZ
abbrev J5 (R:Type):Type:=BA->Int->BA->Y1 R
def t2 {R:Type} (m:BA->Int->Y1 R) (j:J5 R):BA->Int->Y1 R:=
 fun x0 f=>(bif decide (f<x0.size) then (bo (decide (0<=f)&&decide (f<x0.size)) (bif decide ((dP x0 f)>(32:Int)) then (bo (decide (0<=f)&&decide (f<x0.size)) (bif decide ((dP x0 f)<(127:Int)) then (bo (decide (0<=f)&&decide (f<x0.size)) (bif ((dP x0 f) != 58) then (m x0 (wrap .i64 (f+1))) else (bo (decide (0<=f)&&decide (f<=x0.size)) (j x0 f (x0.extract ((0:Int)).toNat (f).toNat))))) else (bo (decide (0<=f)&&decide (f<=x0.size)) (j x0 f (x0.extract ((0:Int)).toNat (f).toNat))))) else (bo (decide (0<=f)&&decide (f<=x0.size)) (j x0 f (x0.extract ((0:Int)).toNat (f).toNat))))) else (bo (decide (0<=f)&&decide (f<=x0.size)) (j x0 f (x0.extract ((0:Int)).toNat (f).toNat))))
def t5 {R:Type} (c1:aY.F R) (z:J5 R) (f:BA->Y3->Y1 R):J5 R:=
 fun x0 j m=>(bif decide (j<x0.size) then (bo (decide (0<=j)&&decide (j<x0.size)) (c1 (dP x0 j) (fun u=>(bif u then (z x0 (wrap .i64 (j+1)) m) else (bif (!decide (m=(⟨#[]⟩:BA))) then (bif decide (j<x0.size) then (bo (decide (0<=j)&&decide (j<x0.size)) (f m ((dP x0 j) == 58))) else (f m false)) else (f m false)))))) else (bif (!decide (m=(⟨#[]⟩:BA))) then (bif decide (j<x0.size) then (bo (decide (0<=j)&&decide (j<x0.size)) (f m ((dP x0 j) == 58))) else (f m false)) else (f m false)))
def e {R:Type} (c1:aY.F R) (a0:BA) (f:BA->Int->Y1 R) (m:J5 R) (j:BA->Y3->Y1 R):Y1 R:=
 (f a0 0)
def L5 {R:Type} (c1:aY.F R) (j:BA->Y3->Y1 R):Nat->J5 R
 | 0=>fun _ _ _=>none
 | f+1=>t5 c1 (L5 c1 j f) j
def L2 {R:Type} (c1:aY.F R) (j:BA->Y3->Y1 R):Nat->BA->Int->Y1 R
 | 0=>fun _ _=>none
 | f+1=>t2 (L2 c1 j f) (L5 c1 j f)
end bZ
def bZ {R:Type}:bZ.F R:=fun a0 f=>bZ.e aY a0 (bZ.L2 aY f ah) (bZ.L5 aY f ah) f
abbrev bA.F (R:Type):Type:=BA->(LA->Y1 R)->Y1 R
namespace bA
abbrev J3 (R:Type):Type:=BA->Y3->BA->LA->Y1 R
def t3 {R:Type} (c1:bc.F R) (c2:aO.F R) (c3:aY.F R) (c4:bZ.F R) (N:J3 R) (z:LA->Y1 R):J3 R:=
 fun x0 O U j=>(bif (!decide (x0=(⟨#[]⟩:BA))) then (c1 x0 (⟨#[13,10]⟩:BA) (fun V=>(bif !V then (c2 x0 (⟨#[13,10]⟩:BA) (fun f=>(bif decide (f>=0) then (bo ((decide (0<=(wrap .i64 (f+2))))&&(decide ((wrap .i64 (f+2))<=(x0.size:Int)))) (bo (decide (0<(x0.size:Int))) (c3 (dP x0 0) (fun W=>(bif !W then (c4 (x0.extract ((0:Int)).toNat ((wrap .i64 (f+2))).toNat) (fun A m=>(bo (decide ((j.length+1)*40<=140737488355328)) (bo ((decide (0<=(wrap .i64 (f+2))))&&((decide ((wrap .i64 (f+2))<=(x0.size:Int)))&&(decide ((x0.size:Int)<=(x0.size:Int))))) (N (x0.extract ((wrap .i64 (f+2))).toNat ((x0.size:Int)).toNat) m A (j++[AV.agg [AV.str (x0.extract ((0:Int)).toNat ((wrap .i64 (f+2))).toNat),AV.str A,AV.bool m,AV.bool m]])))))) else (bo (decide ((j.length+1)*40<=140737488355328)) (bo ((decide (0<=(wrap .i64 (f+2))))&&((decide ((wrap .i64 (f+2))<=(x0.size:Int)))&&(decide ((x0.size:Int)<=(x0.size:Int))))) (N (x0.extract ((wrap .i64 (f+2))).toNat ((x0.size:Int)).toNat) O U (j++[AV.agg [AV.str (x0.extract ((0:Int)).toNat ((wrap .i64 (f+2))).toNat),AV.str U,AV.bool false,AV.bool O]]))))))))) else (bo (decide (0<=(x0.size:Int))&&decide ((x0.size:Int)<=(x0.size:Int))) (bo (decide (0<(x0.size:Int))) (c3 (dP x0 0) (fun X=>(bif !X then (c4 (x0.extract ((0:Int)).toNat ((x0.size:Int)).toNat) (fun M u=>(bo (decide ((j.length+1)*40<=140737488355328)) (bo ((decide (0<=(x0.size:Int)))&&(decide ((x0.size:Int)<=(x0.size:Int))&&decide ((x0.size:Int)<=(x0.size:Int)))) (N (x0.extract ((x0.size:Int)).toNat ((x0.size:Int)).toNat) u M (j++[AV.agg [AV.str (x0.extract ((0:Int)).toNat ((x0.size:Int)).toNat),AV.str M,AV.bool u,AV.bool u]])))))) else (bo (decide ((j.length+1)*40<=140737488355328)) (bo ((decide (0<=(x0.size:Int)))&&(decide ((x0.size:Int)<=(x0.size:Int))&&decide ((x0.size:Int)<=(x0.size:Int)))) (N (x0.extract ((x0.size:Int)).toNat ((x0.size:Int)).toNat) O U (j++[AV.agg [AV.str (x0.extract ((0:Int)).toNat ((x0.size:Int)).toNat),AV.str U,AV.bool false,AV.bool O]])))))))))))) else (z j)))) else (z j))
def e {R:Type} (c1:bc.F R) (c2:aO.F R) (c3:aY.F R) (c4:bZ.F R) (a0:BA) (f:J3 R) (j:LA->Y1 R):Y1 R:=
 (f a0 false (⟨#[]⟩:BA) ([]:LA))
def L3 {R:Type} (c1:bc.F R) (c2:aO.F R) (c3:aY.F R) (c4:bZ.F R) (j:LA->Y1 R):Nat->J3 R
 | 0=>fun _ _ _ _=>none
 | f+1=>t3 c1 c2 c3 c4 (L3 c1 c2 c3 c4 j f) j
end bA
def bA {R:Type}:bA.F R:=fun a0 f=>bA.e bc aO aY bZ a0 (bA.L3 bc aO aY bZ f ah) f
abbrev bN.F (R:Type):Type:=BA->BA->(Y3->Y1 R)->Y1 R
namespace bN
def e {R:Type} (a0 a1:BA) (f:Y3->Y1 R):Y1 R:=
 (bif decide ((a0.size:Int)>=(a1.size:Int)) then (bo ((decide (0<=(wrap .i64 ((a0.size:Int)-(a1.size:Int)))))&&((decide ((wrap .i64 ((a0.size:Int)-(a1.size:Int)))<=(a0.size:Int)))&&(decide ((a0.size:Int)<=(a0.size:Int))))) (f (decide ((a0.extract ((wrap .i64 ((a0.size:Int)-(a1.size:Int)))).toNat ((a0.size:Int)).toNat)=a1)))) else (f false))
end bN
def bN {R:Type}:bN.F R:=fun a0 a1 f=>bN.e a0 a1 f
abbrev cL.F (R:Type):Type:=BA->BA->(BA->Y1 R)->Y1 R
namespace cL
def e {R:Type} (c1:bN.F R) (a0 a1:BA) (f:BA->Y1 R):Y1 R:=
 (c1 a0 a1 (fun j=>(bif j then (bo ((decide (0<=(wrap .i64 ((a0.size:Int)-(a1.size:Int)))))&&(decide ((wrap .i64 ((a0.size:Int)-(a1.size:Int)))<=(a0.size:Int)))) (f (a0.extract ((0:Int)).toNat ((wrap .i64 ((a0.size:Int)-(a1.size:Int)))).toNat))) else (f a0))))
end cL
def cL {R:Type}:cL.F R:=fun a0 a1 f=>cL.e bN a0 a1 f
abbrev aQ.F (R:Type):Type:=BA->BA->(BA->Y1 R)->Y1 R
namespace aQ
def e {R:Type} (c1:cL.F R) (a0 a1:BA) (f:BA->Y1 R):Y1 R:=
 (c1 a0 a1 (fun j=>(f j)))
end aQ
def aQ {R:Type}:aQ.F R:=fun a0 a1 f=>aQ.e cL a0 a1 f
abbrev aC.F (R:Type):Type:=BA->Int->(Int->Y1 R)->Y1 R
namespace aC
def e {R:Type} (c1:cx.F R) (a0:BA) (a1:Int) (f:Int->Y1 R):Y1 R:=
 (c1 a0 a1 (fun j=>(f j)))
end aC
def aC {R:Type}:aC.F R:=fun a0 a1 f=>aC.e cx a0 a1 f
abbrev ch.F (R:Type):Type:=BA->Int->(BA->Y1 R)->Y1 R
namespace ch
def t1 {R:Type} (m:BA->Int->Y1 R) (f:BA->Y1 R):BA->Int->Y1 R:=
 fun x0 j=>(bif decide ((x0.size:Int)>(0:Int)) then (bo ((decide (0<=(wrap .i64 ((x0.size:Int)-1))))&&(decide ((wrap .i64 ((x0.size:Int)-1))<(x0.size:Int)))) (bif ((dP x0 (wrap .i64 ((x0.size:Int)-1))) == j) then (bo ((decide (0<=(wrap .i64 ((x0.size:Int)-1))))&&(decide ((wrap .i64 ((x0.size:Int)-1))<=(x0.size:Int)))) (m (x0.extract ((0:Int)).toNat ((wrap .i64 ((x0.size:Int)-1))).toNat) j)) else (f x0))) else (f x0))
def e {R:Type} (a0:BA) (a1:Int) (f:BA->Int->Y1 R) (j:BA->Y1 R):Y1 R:=
 (f a0 a1)
def L1 {R:Type} (j:BA->Y1 R):Nat->BA->Int->Y1 R
 | 0=>fun _ _=>none
 | f+1=>t1 (L1 j f) j
end ch
def ch {R:Type}:ch.F R:=fun a0 a1 f=>ch.e a0 a1 (ch.L1 f ah) f
abbrev cn.F (R:Type):Type:=BA->Int->(BA->Y1 R)->Y1 R
namespace cn
def t1 {R:Type} (m:BA->Int->Y1 R) (f:BA->Y1 R):BA->Int->Y1 R:=
 fun x0 j=>(bif decide ((x0.size:Int)>(0:Int)) then (bo (decide (0<(x0.size:Int))) (bif ((dP x0 0) == j) then (bo (decide ((1:Int)<=(x0.size:Int))&&decide ((x0.size:Int)<=(x0.size:Int))) (m (x0.extract ((1:Int)).toNat ((x0.size:Int)).toNat) j)) else (f x0))) else (f x0))
def e {R:Type} (a0:BA) (a1:Int) (f:BA->Int->Y1 R) (j:BA->Y1 R):Y1 R:=
 (f a0 a1)
def L1 {R:Type} (j:BA->Y1 R):Nat->BA->Int->Y1 R
 | 0=>fun _ _=>none
 | f+1=>t1 (L1 j f) j
end cn
def cn {R:Type}:cn.F R:=fun a0 a1 f=>cn.e a0 a1 (cn.L1 f ah) f
abbrev cj.F (R:Type):Type:=BA->(LA->Y3->Y1 R)->Y1 R
namespace cj
abbrev J2 (R:Type):Type:=BA->Int->LA->Y1 R
def t2 {R:Type} (u:J2 R) (j:LA->Y3->Y1 R):J2 R:=
 fun x0 f m=>(bif decide (f<x0.size) then (bo (decide (0<=f)&&decide (f<x0.size)) (bif decide ((dP x0 f)>=(128:Int)) then (j m false) else (bo (decide (0<=(dP x0 f))&&decide ((dP x0 f)<(256:Int))) (u x0 (wrap .i64 (f+1)) (eF m (dP x0 f) (AV.bool true)))))) else (j m true))
def e {R:Type} (a0:BA) (f:J2 R) (j:LA->Y3->Y1 R):Y1 R:=
 (f a0 0 (List.replicate 256 (AV.bool false)))
def L2 {R:Type} (j:LA->Y3->Y1 R):Nat->J2 R
 | 0=>fun _ _ _=>none
 | f+1=>t2 (L2 j f) j
end cj
def cj {R:Type}:cj.F R:=fun a0 f=>cj.e a0 (cj.L2 f ah) f
abbrev au.F (R:Type):Type:=LA->Int->(Y3->Y1 R)->Y1 R
namespace au
def e {R:Type} (a0:LA) (a1:Int) (f:Y3->Y1 R):Y1 R:=
 (bo (decide (0<=a1)&&decide (a1<256)) (f (bi a0 a1).b))
end au
def au {R:Type}:au.F R:=fun a0 a1 f=>au.e a0 a1 f
abbrev bm.F (R:Type):Type:=BA->LA->(BA->Y1 R)->Y1 R
namespace bm
def t1 {R:Type} (c1:au.F R) (u:BA->LA->Y1 R) (f:BA->Y1 R):BA->LA->Y1 R:=
 fun x0 m=>(bif decide ((x0.size:Int)>(0:Int)) then (bo ((decide (0<=(wrap .i64 ((x0.size:Int)-1))))&&(decide ((wrap .i64 ((x0.size:Int)-1))<(x0.size:Int)))) (c1 m (dP x0 (wrap .i64 ((x0.size:Int)-1))) (fun j=>(bif !j then (f x0) else (bo ((decide (0<=(wrap .i64 ((x0.size:Int)-1))))&&(decide ((wrap .i64 ((x0.size:Int)-1))<=(x0.size:Int)))) (u (x0.extract ((0:Int)).toNat ((wrap .i64 ((x0.size:Int)-1))).toNat) m)))))) else (f x0))
def e {R:Type} (c1:au.F R) (a0:BA) (a1:LA) (f:BA->LA->Y1 R) (j:BA->Y1 R):Y1 R:=
 (f a0 a1)
def L1 {R:Type} (c1:au.F R) (j:BA->Y1 R):Nat->BA->LA->Y1 R
 | 0=>fun _ _=>none
 | f+1=>t1 c1 (L1 c1 j f) j
end bm
def bm {R:Type}:bm.F R:=fun a0 a1 f=>bm.e au a0 a1 (bm.L1 au f ah) f
abbrev bu.F (R:Type):Type:=BA->LA->(BA->Y1 R)->Y1 R
namespace bu
def t1 {R:Type} (c1:au.F R) (u:BA->LA->Y1 R) (f:BA->Y1 R):BA->LA->Y1 R:=
 fun x0 m=>(bif decide ((x0.size:Int)>(0:Int)) then (bo (decide (0<(x0.size:Int))) (c1 m (dP x0 0) (fun j=>(bif !j then (f x0) else (bo (decide ((1:Int)<=(x0.size:Int))&&decide ((x0.size:Int)<=(x0.size:Int))) (u (x0.extract ((1:Int)).toNat ((x0.size:Int)).toNat) m)))))) else (f x0))
def e {R:Type} (c1:au.F R) (a0:BA) (a1:LA) (f:BA->LA->Y1 R) (j:BA->Y1 R):Y1 R:=
 (f a0 a1)
def L1 {R:Type} (c1:au.F R) (j:BA->Y1 R):Nat->BA->LA->Y1 R
 | 0=>fun _ _=>none
 | f+1=>t1 c1 (L1 c1 j f) j
end bu
def bu {R:Type}:bu.F R:=fun a0 a1 f=>bu.e au a0 a1 (bu.L1 au f ah) f
abbrev bR.F (R:Type):Type:=BA->BA->(BA->Y1 R)->Y1 R
namespace bR
def e {R:Type} (c1:ch.F R) (c2:cn.F R) (c3:cj.F R) (c4:bm.F R) (c5:bu.F R) (a0 a1:BA) (f:BA->Y1 R):Y1 R:=
 (bif decide (a0=(⟨#[]⟩:BA)) then (f a0) else (bif decide (a1=(⟨#[]⟩:BA)) then (f a0) else (bif ((a1.size:Int) == 1) then (bo (decide (0<(a1.size:Int))) (bif decide ((dP a1 0)<(128:Int)) then (bo (decide (0<(a1.size:Int))) (c1 a0 (dP a1 0) (fun u=>(bo (decide (0<(a1.size:Int))) (c2 u (dP a1 0) (fun z=>(f z))))))) else (c3 a1 (fun j A=>(bif A then (c4 a0 j (fun M=>(c5 M j (fun N=>(f N))))) else none))))) else (c3 a1 (fun m O=>(bif O then (c4 a0 m (fun U=>(c5 U m (fun V=>(f V))))) else none))))))
end bR
def bR {R:Type}:bR.F R:=fun a0 a1 f=>bR.e ch cn cj bm bu a0 a1 f
abbrev ba.F (R:Type):Type:=BA->(LA->Y1 R)->Y1 R
namespace ba
abbrev J4 (R:Type):Type:=Int->Int->LA->LA->LA->Y1 R
abbrev J8 (R:Type):Type:=Int->Int->LA->LA->BA->BA->Y3->Y3->LA->Y1 R
abbrev yZ (R:Type):Type:=BA->Int->Int->LA->LA->BA->BA->Y3->Y3->LA->Y1 R
abbrev tJ (R:Type):Type:=Int->Int->LA->LA->LA->Y1 R
abbrev y' (R:Type):Type:=Int->Int->LA->LA->Y1 R
def t4 {R:Type} (M:J8 R) (A:tJ R) (u:y' R):J4 R:=
 fun x0 f m z j=>(bif decide (f<x0) then (bo (decide (0<=f)&&decide (f<j.length)) (bif (!((bi j f).fld 3).b) then (bif ((bi j f).fld 2).b then (u (m.length:Int) 0 m z) else (A x0 f m z j)) else (bif ((bi j f).fld 2).b then (bif ((m.length:Int) == 64) then (bif ((bi j f).fld 2).b then (u (m.length:Int) 0 m z) else (A x0 f m z j)) else (M x0 f m z ((bi j f).fld 0).s ((bi j f).fld 1).s ((bi j f).fld 2).b ((bi j f).fld 3).b j)) else (M x0 f m z ((bi j f).fld 0).s ((bi j f).fld 1).s ((bi j f).fld 2).b ((bi j f).fld 3).b j)))) else (u (m.length:Int) 0 m z))
def t8 {R:Type} (c3:aQ.F R) (c4:aC.F R) (m:yZ R):J8 R:=
 fun x0 O u z A M N U V=>(c3 A (⟨#[13,10]⟩:BA) (fun f=>(bif N then (bo (decide ((u.length+1)*48<=140737488355328)) (bo (decide ((z.length+1)*16<=140737488355328)) (c4 f 58 (fun j=>(bo ((decide (0<=(wrap .i64 (j+1))))&&((decide ((wrap .i64 (j+1))<=(f.size:Int)))&&(decide ((f.size:Int)<=(f.size:Int))))) (m (f.extract ((wrap .i64 (j+1))).toNat ((f.size:Int)).toNat) x0 O (u++[AV.agg [AV.str M,AV.str (⟨#[]⟩:BA),AV.str (⟨#[]⟩:BA)]]) (z++[AV.str (⟨#[]⟩:BA)]) A M N U V)))))) else (m f x0 O u z A M N U V))))
def t13 {R:Type} (u:tJ R):yZ R:=
 fun x0 z A f m j N O U M=>(bo ((decide (0<=(wrap .i64 ((f.length:Int)-1))))&&(decide ((wrap .i64 ((f.length:Int)-1))<(f.length:Int)))) (bo (decide (((bi f (wrap .i64 ((f.length:Int)-1))).fld 2).s.size+j.size<=9223372036854775807)) (bo ((decide (0<=(wrap .i64 ((f.length:Int)-1))))&&(decide ((wrap .i64 ((f.length:Int)-1))<(f.length:Int)))) (bo ((decide (0<=(wrap .i64 (((eF f (wrap .i64 ((f.length:Int)-1)) (AV.agg [AV.str ((bi f (wrap .i64 ((f.length:Int)-1))).fld 0).s,AV.str ((bi f (wrap .i64 ((f.length:Int)-1))).fld 1).s,AV.str (((bi f (wrap .i64 ((f.length:Int)-1))).fld 2).s++j)])).length:Int)-1))))&&(decide ((wrap .i64 (((eF f (wrap .i64 ((f.length:Int)-1)) (AV.agg [AV.str ((bi f (wrap .i64 ((f.length:Int)-1))).fld 0).s,AV.str ((bi f (wrap .i64 ((f.length:Int)-1))).fld 1).s,AV.str (((bi f (wrap .i64 ((f.length:Int)-1))).fld 2).s++j)])).length:Int)-1))<(m.length:Int)))) (bo (decide ((bi m (wrap .i64 (((eF f (wrap .i64 ((f.length:Int)-1)) (AV.agg [AV.str ((bi f (wrap .i64 ((f.length:Int)-1))).fld 0).s,AV.str ((bi f (wrap .i64 ((f.length:Int)-1))).fld 1).s,AV.str (((bi f (wrap .i64 ((f.length:Int)-1))).fld 2).s++j)])).length:Int)-1))).s.size+x0.size<=9223372036854775807)) (bo ((decide (0<=(wrap .i64 (((eF f (wrap .i64 ((f.length:Int)-1)) (AV.agg [AV.str ((bi f (wrap .i64 ((f.length:Int)-1))).fld 0).s,AV.str ((bi f (wrap .i64 ((f.length:Int)-1))).fld 1).s,AV.str (((bi f (wrap .i64 ((f.length:Int)-1))).fld 2).s++j)])).length:Int)-1))))&&(decide ((wrap .i64 (((eF f (wrap .i64 ((f.length:Int)-1)) (AV.agg [AV.str ((bi f (wrap .i64 ((f.length:Int)-1))).fld 0).s,AV.str ((bi f (wrap .i64 ((f.length:Int)-1))).fld 1).s,AV.str (((bi f (wrap .i64 ((f.length:Int)-1))).fld 2).s++j)])).length:Int)-1))<(m.length:Int)))) (u z A (eF f (wrap .i64 ((f.length:Int)-1)) (AV.agg [AV.str ((bi f (wrap .i64 ((f.length:Int)-1))).fld 0).s,AV.str ((bi f (wrap .i64 ((f.length:Int)-1))).fld 1).s,AV.str (((bi f (wrap .i64 ((f.length:Int)-1))).fld 2).s++j)])) (eF m (wrap .i64 (((eF f (wrap .i64 ((f.length:Int)-1)) (AV.agg [AV.str ((bi f (wrap .i64 ((f.length:Int)-1))).fld 0).s,AV.str ((bi f (wrap .i64 ((f.length:Int)-1))).fld 1).s,AV.str (((bi f (wrap .i64 ((f.length:Int)-1))).fld 2).s++j)])).length:Int)-1)) (AV.str ((bi m (wrap .i64 (((eF f (wrap .i64 ((f.length:Int)-1)) (AV.agg [AV.str ((bi f (wrap .i64 ((f.length:Int)-1))).fld 0).s,AV.str ((bi f (wrap .i64 ((f.length:Int)-1))).fld 1).s,AV.str (((bi f (wrap .i64 ((f.length:Int)-1))).fld 2).s++j)])).length:Int)-1))).s++x0))) M)))))))
def t15 {R:Type} (f:J4 R):tJ R:=
 fun x0 j m u z=>(f x0 (wrap .i64 (j+1)) m u z)
def t17 {R:Type} (c2:bR.F R) (m:y' R) (u:LA->Y1 R):y' R:=
 fun x0 f j z=>(bif decide (f<x0) then (bo (decide (0<=f)&&decide (f<z.length)) (c2 (bi z f).s (⟨#[32,9]⟩:BA) (fun A=>(bo (decide (0<=f)&&decide (f<j.length)) (m x0 (wrap .i64 (f+1)) (eF j f (AV.agg [AV.str ((bi j f).fld 0).s,AV.str A,AV.str ((bi j f).fld 2).s])) z))))) else (u j))
def e {R:Type} (c1:bA.F R) (c2:bR.F R) (c3:aQ.F R) (c4:aC.F R) (a0:BA) (j:J4 R) (M:J8 R) (m:yZ R) (u:tJ R) (z:y' R) (A:LA->Y1 R):Y1 R:=
 (c1 a0 (fun f=>(j (f.length:Int) 0 ([]:LA) ([]:LA) f)))
def Aq {R:Type} (c1:bA.F R) (c2:bR.F R) (c3:aQ.F R) (c4:aC.F R) (j:LA->Y1 R):Nat->y' R
 | 0=>fun _ _ _ _=>none
 | f+1=>t17 c2 (Aq c1 c2 c3 c4 j f) j
def M4 {R:Type} (c1:bA.F R) (c2:bR.F R) (c3:aQ.F R) (c4:aC.F R) (j:LA->Y1 R):Nat->(J4 R) × (J8 R) × (yZ R) × (tJ R)
 | 0=>(fun _ _ _ _ _=>none,fun _ _ _ _ _ _ _ _ _=>none,fun _ _ _ _ _ _ _ _ _ _=>none,fun _ _ _ _ _=>none)
 | f+1=>(t4 ((M4 c1 c2 c3 c4 j f).2.1) ((M4 c1 c2 c3 c4 j f).2.2.2) (Aq c1 c2 c3 c4 j f),
  t8 c3 c4 ((M4 c1 c2 c3 c4 j f).2.2.1),
  t13 ((M4 c1 c2 c3 c4 j f).2.2.2),
  t15 ((M4 c1 c2 c3 c4 j f).1))
def L4 {R:Type} (c1:bA.F R) (c2:bR.F R) (c3:aQ.F R) (c4:aC.F R) (j:LA->Y1 R) (f:Nat):J4 R:=(M4 c1 c2 c3 c4 j f).1
def L8 {R:Type} (c1:bA.F R) (c2:bR.F R) (c3:aQ.F R) (c4:aC.F R) (j:LA->Y1 R) (f:Nat):J8 R:=(M4 c1 c2 c3 c4 j f).2.1
def u6 {R:Type} (c1:bA.F R) (c2:bR.F R) (c3:aQ.F R) (c4:aC.F R) (j:LA->Y1 R) (f:Nat):yZ R:=(M4 c1 c2 c3 c4 j f).2.2.1
def oM {R:Type} (c1:bA.F R) (c2:bR.F R) (c3:aQ.F R) (c4:aC.F R) (j:LA->Y1 R) (f:Nat):tJ R:=(M4 c1 c2 c3 c4 j f).2.2.2
end ba
def ba {R:Type}:ba.F R:=fun a0 f=>ba.e bA bR aQ aC a0 (ba.L4 bA bR aQ aC f ah) (ba.L8 bA bR aQ aC f ah) (ba.u6 bA bR aQ aC f ah) (ba.oM bA bR aQ aC f ah) (ba.Aq bA bR aQ aC f ah) f
abbrev bM.F (R:Type):Type:=BA->(BA->Y1 R)->Y1 R
namespace bM
abbrev J3 (R:Type):Type:=Int->Int->LA->Y1 R
def t3 {R:Type} (m:J3 R) (u:BA->Y1 R):J3 R:=
 fun x0 f j=>(bif decide (f<x0) then (bo (decide (0<=f)&&decide (f<j.length)) (bif decide ((bi j f).i>=(65:Int)) then (bif decide ((bi j f).i<=(90:Int)) then (bo (decide (0<=f)&&decide (f<j.length)) (m x0 (wrap .i64 (f+1)) (eF j f (AV.int (wrap .u8 ((wrap .u8 ((bi j f).i+97))-65)))))) else (m x0 (wrap .i64 (f+1)) j)) else (m x0 (wrap .i64 (f+1)) j))) else (u (fI j)))
def e {R:Type} (a0:BA) (f:J3 R) (j:BA->Y1 R):Y1 R:=
 (bo (decide ((a0.size+0)*1<=140737488355328)) (f ((eh a0).length:Int) 0 (eh a0)))
def L3 {R:Type} (j:BA->Y1 R):Nat->J3 R
 | 0=>fun _ _ _=>none
 | f+1=>t3 (L3 j f) j
end bM
def bM {R:Type}:bM.F R:=fun a0 f=>bM.e a0 (bM.L3 f ah) f
abbrev cv.F (R:Type):Type:=BA->BA->(Y3->Y1 R)->Y1 R
namespace cv
def e {R:Type} (c1:bM.F R) (a0 a1:BA) (f:Y3->Y1 R):Y1 R:=
 (c1 a0 (fun j=>(c1 a1 (fun m=>(f (decide (j=m)))))))
end cv
def cv {R:Type}:cv.F R:=fun a0 a1 f=>cv.e bM a0 a1 f
abbrev df.F (R:Type):Type:=LA->BA->(Y3->BA->Y1 R)->Y1 R
namespace df
abbrev J2 (R:Type):Type:=BA->LA->Int->Int->Y3->BA->Y1 R
def t2 {R:Type} (c1:cv.F R) (A:J2 R) (j:Y3->BA->Y1 R):J2 R:=
 fun x0 m z f M N=>(bif decide (f<z) then (bo (decide (0<=f)&&decide (f<m.length)) (c1 ((bi m f).fld 0).s x0 (fun u=>(bif u then (j true ((bi m f).fld 1).s) else (A x0 m z (wrap .i64 (f+1)) M N))))) else (j false (⟨#[]⟩:BA)))
def e {R:Type} (c1:cv.F R) (a0:LA) (a1:BA) (f:J2 R) (j:Y3->BA->Y1 R):Y1 R:=
 (f a1 a0 (a0.length:Int) 0 false (⟨#[]⟩:BA))
def L2 {R:Type} (c1:cv.F R) (j:Y3->BA->Y1 R):Nat->J2 R
 | 0=>fun _ _ _ _ _ _=>none
 | f+1=>t2 c1 (L2 c1 j f) j
end df
def df {R:Type}:df.F R:=fun a0 a1 f=>df.e cv a0 a1 (df.L2 cv f ah) f
abbrev bC.Q0 (R:Type):Type:=Int->BA->Int->Y1 R
abbrev bC.F (R:Type):Type:=BA->Int->bC.Q0 R->Y1 R
namespace bC
def e {R:Type} (a0:BA) (a1:Int) (f:Q0 R):Y1 R:=
 (bif decide (a1<a0.size) then (bo (decide (0<=a1)&&decide (a1<a0.size)) (f (dP a0 a1) a0 a1)) else (f 0 a0 a1))
end bC
def bC {R:Type}:bC.F R:=fun a0 a1 f=>bC.e a0 a1 f
abbrev aP.F (R:Type):Type:=BA->Int->(BA->Int->Y1 R)->Y1 R
namespace aP
abbrev J1 (R:Type):Type:=Int->BA->Int->Y1 R
def t1 {R:Type} (u:J1 R) (m:BA->Int->Y1 R):J1 R:=
 fun x0 f j=>(bif decide (j<f.size) then (bo (decide (0<=j)&&decide (j<f.size)) (bif ((dP f j) == 92) then (u x0 f (wrap .i64 ((wrap .i64 (j+1))+1))) else (bif ((dP f j) == 40) then (u (wrap .i64 (x0+1)) f (wrap .i64 (j+1))) else (bif ((dP f j) == 41) then (bif ((wrap .i64 (x0-1)) == 0) then (m f (wrap .i64 (j+1))) else (u (wrap .i64 (x0-1)) f (wrap .i64 (j+1)))) else (u x0 f (wrap .i64 (j+1))))))) else (m f (f.size:Int)))
def e {R:Type} (a0:BA) (a1:Int) (f:J1 R) (j:BA->Int->Y1 R):Y1 R:=
 (f 0 a0 a1)
def L1 {R:Type} (j:BA->Int->Y1 R):Nat->J1 R
 | 0=>fun _ _ _=>none
 | f+1=>t1 (L1 j f) j
end aP
def aP {R:Type}:aP.F R:=fun a0 a1 f=>aP.e a0 a1 (aP.L1 f ah) f
abbrev ak.F (R:Type):Type:=BA->Int->(BA->Int->Y1 R)->Y1 R
namespace ak
def t0 {R:Type} (c1:bC.F R) (c2:aP.F R) (A:BA->Int->Y1 R) (M:BA->Int->Y1 R):BA->Int->Y1 R:=
 fun x0 N=>(c1 x0 N (fun m j f=>(bif (m == 32) then (A j (wrap .i64 (f+1))) else (bif (m == 9) then (A j (wrap .i64 (f+1))) else (bif (m == 40) then (c2 j f (fun u z=>(A u z))) else (M j f))))))
def e {R:Type} (c1:bC.F R) (c2:aP.F R) (a0:BA) (a1:Int) (f:BA->Int->Y1 R) (j:BA->Int->Y1 R):Y1 R:=
 (f a0 a1)
def L0 {R:Type} (c1:bC.F R) (c2:aP.F R) (j:BA->Int->Y1 R):Nat->BA->Int->Y1 R
 | 0=>fun _ _=>none
 | f+1=>t0 c1 c2 (L0 c1 c2 j f) j
end ak
def ak {R:Type}:ak.F R:=fun a0 a1 f=>ak.e bC aP a0 a1 (ak.L0 bC aP f ah) f
abbrev cb.F (R:Type):Type:=Int->(Y3->Y1 R)->Y1 R
namespace cb
def e {R:Type} (a0:Int) (f:Y3->Y1 R):Y1 R:=
 (bif decide (0<=a0) then (bif decide (a0<55296) then (f true) else (bif decide ((57343:Int)<a0) then (bif decide (a0<=1114111) then (f true) else (f false)) else (f false))) else (bif decide ((57343:Int)<a0) then (bif decide (a0<=1114111) then (f true) else (f false)) else (f false)))
end cb
def cb {R:Type}:cb.F R:=fun a0 f=>cb.e a0 f
abbrev cB.F (R:Type):Type:=Int->(Int->Y1 R)->Y1 R
namespace cB
def e {R:Type} (a0:Int) (f:Int->Y1 R):Y1 R:=
 (f (wrap .i64 (Int.tdiv (wrap .i64 (a0+16)) 8)))
end cB
def cB {R:Type}:cB.F R:=fun a0 f=>cB.e a0 f
abbrev cD.F (R:Type):Type:=BA->Int->(Int->Y1 R)->Y1 R
namespace cD
abbrev J5 (R:Type):Type:=BA->Int->BA->Int->Int->Int->Y1 R
abbrev Ge (R:Type):Type:=BA->Int->BA->Int->Int->Int->Int->Y1 R
def t5 {R:Type} (c1:aC.F R) (z:Ge R) (A:Int->Y1 R):J5 R:=
 fun x0 M u j f N=>(bif decide (f<x0.size) then (bo (decide (0<=f)&&decide (f<x0.size)) (bo (decide (0<=j)&&decide (j<u.size)) (bif ((dP x0 f) != (dP u j)) then (bo ((decide (0<=(wrap .i64 (f+1))))&&((decide ((wrap .i64 (f+1))<=(x0.size:Int)))&&(decide ((x0.size:Int)<=(x0.size:Int))))) (bo (decide (0<=j)&&decide (j<u.size)) (c1 (x0.extract ((wrap .i64 (f+1))).toNat ((x0.size:Int)).toNat) (dP u j) (fun m=>(bif decide (m<0) then (A (-1)) else (z x0 M u j (wrap .i64 (f+(wrap .i64 (m+1)))) N 1)))))) else (z x0 M u j f N 1)))) else (A (-1)))
def t12 {R:Type} (c3:cB.F R) (U:J5 R) (M:Ge R) (N:Int->Y1 R):Ge R:=
 fun x0 O u j f A m=>(bif decide (m<u.size) then (bo ((decide (0<=(wrap .i64 (f-m))))&&(decide ((wrap .i64 (f-m))<(x0.size:Int)))) (bo ((decide (0<=(wrap .i64 (j-m))))&&(decide ((wrap .i64 (j-m))<(u.size:Int)))) (bif ((dP x0 (wrap .i64 (f-m))) != (dP u (wrap .i64 (j-m)))) then (c3 (wrap .i64 (f+1)) (fun z=>(bif (decide ((wrap .i64 (A+1))>z)) then (bif (decide ((wrap .i64 (f+1))<(x0.size:Int))) then (bo ((decide (0<=(wrap .i64 ((wrap .i64 (f+1))-j))))&&((decide ((wrap .i64 ((wrap .i64 (f+1))-j))<=(x0.size:Int)))&&(decide ((x0.size:Int)<=(x0.size:Int))))) none) else (U x0 O u j (wrap .i64 (f+1)) (wrap .i64 (A+1)))) else (U x0 O u j (wrap .i64 (f+1)) (wrap .i64 (A+1)))))) else (M x0 O u j f A (wrap .i64 (m+1)))))) else (N (wrap .i64 (f-j))))
def t38 {R:Type} (m:BA->Nat->Y1 R) (f:Int->Y1 R):BA->Nat->Y1 R:=
 fun x0 j=>(bif decide (j<x0.size) then (bif (((Utf8.decode x0 j).1:Int) == 65533) then (f (j:Int)) else (m x0 (j+(Utf8.decode x0 j).2))) else (f (-1)))
def e {R:Type} (c1:aC.F R) (c2:cb.F R) (c3:cB.F R) (a0:BA) (a1:Int) (A:J5 R) (M:Ge R) (j:BA->Nat->Y1 R) (f:Int->Y1 R):Y1 R:=
 (bif decide (0<=a1) then (bif decide (a1<128) then (c1 a0 (wrap .u8 a1) (fun m=>(f m))) else (bif (a1 == 65533) then (j a0 0) else (c2 a1 (fun u=>(bif !u then (f (-1)) else (A a0 a1 (Utf8.encode a1) (wrap .i64 (((Utf8.encode a1).size:Int)-1)) (wrap .i64 (((Utf8.encode a1).size:Int)-1)) 0)))))) else (bif (a1 == 65533) then (j a0 0) else (c2 a1 (fun z=>(bif !z then (f (-1)) else (A a0 a1 (Utf8.encode a1) (wrap .i64 (((Utf8.encode a1).size:Int)-1)) (wrap .i64 (((Utf8.encode a1).size:Int)-1)) 0))))))
def M5 {R:Type} (c1:aC.F R) (c2:cb.F R) (c3:cB.F R) (j:Int->Y1 R):Nat->(J5 R) × (Ge R)
 | 0=>(fun _ _ _ _ _ _=>none,fun _ _ _ _ _ _ _=>none)
 | f+1=>(t5 c1 ((M5 c1 c2 c3 j f).2) j,
  t12 c3 ((M5 c1 c2 c3 j f).1) ((M5 c1 c2 c3 j f).2) j)
def L5 {R:Type} (c1:aC.F R) (c2:cb.F R) (c3:cB.F R) (j:Int->Y1 R) (f:Nat):J5 R:=(M5 c1 c2 c3 j f).1
def Ix {R:Type} (c1:aC.F R) (c2:cb.F R) (c3:cB.F R) (j:Int->Y1 R) (f:Nat):Ge R:=(M5 c1 c2 c3 j f).2
def Iy {R:Type} (c1:aC.F R) (c2:cb.F R) (c3:cB.F R) (j:Int->Y1 R):Nat->BA->Nat->Y1 R
 | 0=>fun _ _=>none
 | f+1=>t38 (Iy c1 c2 c3 j f) j
end cD
def cD {R:Type}:cD.F R:=fun a0 a1 f=>cD.e aC cb cB a0 a1 (cD.L5 aC cb cB f ah) (cD.Ix aC cb cB f ah) (cD.Iy aC cb cB f ah) f
abbrev bj.F (R:Type):Type:=BA->Int->(Y3->Y1 R)->Y1 R
namespace bj
def e {R:Type} (c1:cD.F R) (a0:BA) (a1:Int) (j:Y3->Y1 R):Y1 R:=
 (c1 a0 a1 (fun f=>(j (decide (f>=0)))))
end bj
def bj {R:Type}:bj.F R:=fun a0 a1 f=>bj.e cD a0 a1 f
abbrev az.Q0 (R:Type):Type:=BA->BA->Int->Y1 R
abbrev az.F (R:Type):Type:=BA->Int->az.Q0 R->Y1 R
namespace az
abbrev J2 (R:Type):Type:=Int->BA->Int->Y1 R
def t2 {R:Type} (c1:bj.F R) (z:J2 R) (m:Q0 R):J2 R:=
 fun x0 j f=>(bif decide (f<j.size) then (bo (decide (0<=f)&&decide (f<j.size)) (bif decide ((dP j f)>(32:Int)) then (bo (decide (0<=f)&&decide (f<j.size)) (bif decide ((dP j f)<(127:Int)) then (bo (decide (0<=f)&&decide (f<j.size)) (c1 (⟨#[40,41,60,62,64,44,59,58,92,34,47,91,93,63,61]⟩:BA) (wrap .i32 (dP j f)) (fun u=>(bif !u then (z x0 j (wrap .i64 (f+1))) else (bo ((decide (0<=x0))&&(decide (x0<=f)&&decide (f<=j.size))) (m (j.extract (x0).toNat (f).toNat) j f)))))) else (bo ((decide (0<=x0))&&(decide (x0<=f)&&decide (f<=j.size))) (m (j.extract (x0).toNat (f).toNat) j f)))) else (bo ((decide (0<=x0))&&(decide (x0<=f)&&decide (f<=j.size))) (m (j.extract (x0).toNat (f).toNat) j f)))) else (bo ((decide (0<=x0))&&(decide (x0<=f)&&decide (f<=j.size))) (m (j.extract (x0).toNat (f).toNat) j f)))
def e {R:Type} (c1:bj.F R) (a0:BA) (a1:Int) (f:J2 R) (j:Q0 R):Y1 R:=
 (f a1 a0 a1)
def L2 {R:Type} (c1:bj.F R) (j:Q0 R):Nat->J2 R
 | 0=>fun _ _ _=>none
 | f+1=>t2 c1 (L2 c1 j f) j
end az
def az {R:Type}:az.F R:=fun a0 a1 f=>az.e bj a0 a1 (az.L2 bj f ah) f
abbrev ao.Q0 (R:Type):Type:=Y3->BA->Int->Y1 R
abbrev ao.F (R:Type):Type:=BA->Int->Int->ao.Q0 R->Y1 R
namespace ao
def e {R:Type} (a0:BA) (a1 a2:Int) (f:Q0 R):Y1 R:=
 (bif decide (a1<a0.size) then (bo (decide (0<=a1)&&decide (a1<a0.size)) (bif ((dP a0 a1) == a2) then (f true a0 (wrap .i64 (a1+1))) else (f false a0 a1))) else (f false a0 a1))
end ao
def ao {R:Type}:ao.F R:=fun a0 a1 a2 f=>ao.e a0 a1 a2 f
abbrev bg.Q0 (R:Type):Type:=BA->BA->Y3->BA->Int->Y1 R
abbrev bg.F (R:Type):Type:=BA->Int->bg.Q0 R->Y1 R
namespace bg
def e {R:Type} (c1:ak.F R) (c2:az.F R) (c3:bM.F R) (c4:ao.F R) (a0:BA) (a1:Int) (M:Q0 R):Y1 R:=
 (c1 a0 a1 (fun N O=>(c2 N O (fun U V W=>(c3 U (fun f=>(c1 V W (fun j m=>(bif decide (f=(⟨#[]⟩:BA)) then (M (⟨#[]⟩:BA) (⟨#[]⟩:BA) false j m) else (c4 j m 47 (fun X u z=>(bif !X then (M (⟨#[]⟩:BA) (⟨#[]⟩:BA) false u z) else (c1 u z (fun Y ad=>(c2 Y ad (fun ae ap ar=>(c3 ae (fun A=>(M f A (!decide (A=(⟨#[]⟩:BA))) ap ar)))))))))))))))))))
end bg
def bg {R:Type}:bg.F R:=fun a0 a1 f=>bg.e ak az bM ao a0 a1 f
abbrev av.F (R:Type):Type:=LA->(BA->Y1 R)->Y1 R
namespace av
def e {R:Type} (a0:LA) (f:BA->Y1 R):Y1 R:=
 (bo (decide ((a0.length:Int)=(a0.length:Int))) (bo (List.all a0 px) (f (fI a0))))
end av
def av {R:Type}:av.F R:=fun a0 f=>av.e a0 f
abbrev bL.F (R:Type):Type:=LA->(LA->Y1 R)->Y1 R
def bL {R:Type} (a0:LA) (f:LA->Y1 R):Y1 R:=f a0
abbrev aT.F (R:Type):Type:=LA->Int->(LA->Y1 R)->Y1 R
namespace aT
def e {R:Type} (c1:bL.F R) (a0:LA) (a1:Int) (j:LA->Y1 R):Y1 R:=
 (c1 a0 (fun f=>(bo (decide ((f.length+1)*1<=140737488355328)) (j (f++[AV.int a1])))))
end aT
def aT {R:Type}:aT.F R:=fun a0 a1 f=>aT.e bL a0 a1 f
abbrev bD.Q0 (R:Type):Type:=BA->Y3->BA->Int->Y1 R
abbrev bD.F (R:Type):Type:=BA->Int->bD.Q0 R->Y1 R
namespace bD
abbrev J5 (R:Type):Type:=BA->Int->LA->Y1 R
def t5 {R:Type} (c3:av.F R) (c4:aT.F R) (N:J5 R) (j:Q0 R):J5 R:=
 fun x0 f M=>(bif decide (f<x0.size) then (bo (decide (0<=f)&&decide (f<x0.size)) (bif ((dP x0 f) == 34) then (c3 M (fun m=>(j m true x0 (wrap .i64 (f+1))))) else (bif ((dP x0 f) == 92) then (bif (decide ((wrap .i64 (f+1))<(x0.size:Int))) then (bo ((decide (0<=(wrap .i64 (f+1))))&&(decide ((wrap .i64 (f+1))<(x0.size:Int)))) (c4 M (dP x0 (wrap .i64 (f+1))) (fun u=>(N x0 (wrap .i64 ((wrap .i64 (f+1))+1)) u)))) else (c4 M (dP x0 f) (fun z=>(N x0 (wrap .i64 (f+1)) z)))) else (c4 M (dP x0 f) (fun A=>(N x0 (wrap .i64 (f+1)) A)))))) else (j (⟨#[]⟩:BA) false x0 f))
def e {R:Type} (c1:ao.F R) (c2:az.F R) (c3:av.F R) (c4:aT.F R) (a0:BA) (a1:Int) (N:J5 R) (M:Q0 R):Y1 R:=
 (c1 a0 a1 34 (fun u f j=>(bif !u then (c2 f j (fun m z A=>(M m (!decide (m=(⟨#[]⟩:BA))) z A))) else (N f j ([]:LA)))))
def L5 {R:Type} (c1:ao.F R) (c2:az.F R) (c3:av.F R) (c4:aT.F R) (j:Q0 R):Nat->J5 R
 | 0=>fun _ _ _=>none
 | f+1=>t5 c3 c4 (L5 c1 c2 c3 c4 j f) j
end bD
def bD {R:Type}:bD.F R:=fun a0 a1 f=>bD.e ao az av aT a0 a1 (bD.L5 ao az av aT f ah) f
abbrev aX.Q0 (R:Type):Type:=BA->BA->Y3->BA->Int->Y1 R
abbrev aX.F (R:Type):Type:=BA->Int->aX.Q0 R->Y1 R
namespace aX
def e {R:Type} (c1:ak.F R) (c2:ao.F R) (c3:az.F R) (c4:bM.F R) (c5:bD.F R) (a0:BA) (a1:Int) (f:Q0 R):Y1 R:=
 (c1 a0 a1 (fun O U=>(c2 O U 59 (fun V j m=>(bif !V then (f (⟨#[]⟩:BA) (⟨#[]⟩:BA) false j m) else (c1 j m (fun W X=>(c3 W X (fun Y ad ae=>(c4 Y (fun u=>(c1 ad ae (fun z A=>(bif decide (u=(⟨#[]⟩:BA)) then (f (⟨#[]⟩:BA) (⟨#[]⟩:BA) false z A) else (c2 z A 61 (fun ap M N=>(bif !ap then (f (⟨#[]⟩:BA) (⟨#[]⟩:BA) false M N) else (c1 M N (fun ar ax=>(c5 ar ax (fun a6 a7 a8 bb=>(f u a6 a7 a8 bb))))))))))))))))))))))
end aX
def aX {R:Type}:aX.F R:=fun a0 a1 f=>aX.e ak ao az bM bD a0 a1 f
abbrev aL.Q0 (R:Type):Type:=LA->BA->Int->Y1 R
abbrev aL.F (R:Type):Type:=BA->Int->aL.Q0 R->Y1 R
namespace aL
abbrev J3 (R:Type):Type:=BA->Int->LA->LA->Y1 R
def t3 {R:Type} (c1:aX.F R) (O:J3 R) (A:Q0 R):J3 R:=
 fun x0 U u z=>(bif decide ((u.length:Int)<(12:Int)) then (c1 x0 U (fun f M N j m=>(bif !N then (A u j m) else (bif ((iN (.str) (AV.str f) (gL (.str) (AV.str f) (AV.int (wrap .i64 ((iN (.str) (AV.str f) z).i+1))) z)).i == 1) then (bo (decide ((u.length+1)*32<=140737488355328)) (O j m (u++[AV.agg [AV.str f,AV.str M]]) (gL (.str) (AV.str f) (AV.int (wrap .i64 ((iN (.str) (AV.str f) z).i+1))) z))) else (O j m u (gL (.str) (AV.str f) (AV.int (wrap .i64 ((iN (.str) (AV.str f) z).i+1))) z)))))) else (A u x0 U))
def e {R:Type} (c1:aX.F R) (a0:BA) (a1:Int) (f:J3 R) (j:Q0 R):Y1 R:=
 (f a0 a1 ([]:LA) ([]:LA))
def L3 {R:Type} (c1:aX.F R) (j:Q0 R):Nat->J3 R
 | 0=>fun _ _ _ _=>none
 | f+1=>t3 c1 (L3 c1 j f) j
end aL
def aL {R:Type}:aL.F R:=fun a0 a1 f=>aL.e aX a0 a1 (aL.L3 aX f ah) f
abbrev aB.Q0 (R:Type):Type:=Y3->BA->BA->Int->Y1 R
abbrev aB.F (R:Type):Type:=BA->Int->aB.Q0 R->Y1 R
namespace aB
def e {R:Type} (c1:ak.F R) (c2:az.F R) (c3:bM.F R) (a0:BA) (a1:Int) (M:Q0 R):Y1 R:=
 (c1 a0 a1 (fun j m=>(c2 j m (fun u z A=>(c3 u (fun f=>(M (!decide (f=(⟨#[]⟩:BA))) f z A)))))))
end aB
def aB {R:Type}:aB.F R:=fun a0 a1 f=>aB.e ak az bM a0 a1 f
abbrev dn.F (R:Type):Type:=LA->BA->(Y3->BA->Y1 R)->Y1 R
namespace dn
def e {R:Type} (c1:df.F R) (c2:bR.F R) (a0:LA) (a1:BA) (u:Y3->BA->Y1 R):Y1 R:=
 (c1 a0 a1 (fun f j=>(c2 j (⟨#[32,9]⟩:BA) (fun m=>(u f m)))))
end dn
def dn {R:Type}:dn.F R:=fun a0 a1 f=>dn.e df bR a0 a1 f
abbrev aJ.Q0 (R:Type):Type:=LA->BA->Int->Y1 R
abbrev aJ.F (R:Type):Type:=BA->Int->aJ.Q0 R->Y1 R
namespace aJ
abbrev J2 (R:Type):Type:=BA->Int->LA->Y1 R
abbrev J8 (R:Type):Type:=LA->BA->Int->Y1 R
def t2 {R:Type} (c1:aB.F R) (c2:ak.F R) (c3:ao.F R) (X:J2 R) (V:J8 R):J2 R:=
 fun x0 W A=>(bif decide ((A.length:Int)<(12:Int)) then (c1 x0 W (fun M f j m=>(bif !M then (V A j m) else (bo (decide ((A.length+1)*16<=140737488355328)) (c2 j m (fun N O=>(c3 N O 44 (fun U u z=>(bif !U then (V (A++[AV.str f]) u z) else (X u z (A++[AV.str f]))))))))))) else (V A x0 W))
def t8 {R:Type} (f:Q0 R):J8 R:=
 fun x0 j m=>(f x0 j m)
def e {R:Type} (c1:aB.F R) (c2:ak.F R) (c3:ao.F R) (a0:BA) (a1:Int) (f:J2 R) (m:J8 R) (j:Q0 R):Y1 R:=
 (f a0 a1 ([]:LA))
def L8 {R:Type} (c1:aB.F R) (c2:ak.F R) (c3:ao.F R) (j:Q0 R):Nat->J8 R
 | 0=>fun _ _ _=>none
 | f+1=>t8 j
def L2 {R:Type} (c1:aB.F R) (c2:ak.F R) (c3:ao.F R) (j:Q0 R):Nat->J2 R
 | 0=>fun _ _ _=>none
 | f+1=>t2 c1 c2 c3 (L2 c1 c2 c3 j f) (L8 c1 c2 c3 j f)
end aJ
def aJ {R:Type}:aJ.F R:=fun a0 a1 f=>aJ.e aB ak ao a0 a1 (aJ.L2 aB ak ao f ah) (aJ.L8 aB ak ao f ah) f
abbrev dv.Q0 (R:Type):Type:=T3 R
abbrev dv.F (R:Type):Type:=BA->BA->BA->Y3->BA->Y3->BA->Y3->BA->Y3->BA->Y3->BA->Int->Int->Int->Int->Int->LA->Y3->dv.Q0 R->Y1 R
namespace dv
abbrev tJ (R:Type):Type:=LA->T3 R
def t15 {R:Type} (c1:df.F R) (c6:aJ.F R) (m:Q0 R):tJ R:=
 fun x0 x1 x2 x3 x4 x5 x6 x7 x8 x9 u z A M ar N O U V W X Y=>(c1 x0 (⟨#[67,111,110,116,101,110,116,45,76,97,110,103,117,97,103,101]⟩:BA) (fun ad f=>(c6 f 0 (fun j ae ap=>(m x1 x2 x3 x4 x5 x6 x7 x8 x9 u z A M j N O U V W X Y)))))
def e {R:Type} (c1:df.F R) (c2:bg.F R) (c3:aL.F R) (c4:aB.F R) (c5:dn.F R) (c6:aJ.F R) (a0 a1 a2:BA) (a3:Y3) (a4:BA) (a5:Y3) (a6:BA) (a7:Y3) (a8:BA) (a9:Y3) (hn:BA) (ho:Y3) (a12:BA) (j m u z A:Int) (f:LA) (e':Y3) (M:tJ R) (hp:Q0 R):Y1 R:=
 (c1 f (⟨#[67,111,110,116,101,110,116,45,84,121,112,101]⟩:BA) (fun hq fl=>(c2 fl 0 (fun V W dg dr d'=>(bif dg then (c3 dr d' (fun X fo fr=>(c1 f (⟨#[67,111,110,116,101,110,116,45,84,114,97,110,115,102,101,114,45,69,110,99,111,100,105,110,103]⟩:BA) (fun fs ea=>(c4 ea 0 (fun Y ad fu fz=>(c5 f (⟨#[67,111,110,116,101,110,116,45,73,100]⟩:BA) (fun ae ap=>(c5 f (⟨#[67,111,110,116,101,110,116,45,68,101,115,99,114,105,112,116,105,111,110]⟩:BA) (fun ar ax=>(c5 f (⟨#[67,111,110,116,101,110,116,45,76,111,99,97,116,105,111,110]⟩:BA) (fun bb be=>(c1 f (⟨#[67,111,110,116,101,110,116,45,68,105,115,112,111,115,105,116,105,111,110]⟩:BA) (fun f' eb=>(c4 eb 0 (fun N bk ed ei=>(bif N then (c3 ed ei (fun ek gb gr=>(M f a0 V W X ae ap ar ax Y ad N bk ek ([]:LA) bb be j m u z A))) else (M f a0 V W X ae ap ar ax Y ad N bk ([]:LA) ([]:LA) bb be j m u z A)))))))))))))))))) else (bif e' then (c1 f (⟨#[67,111,110,116,101,110,116,45,84,114,97,110,115,102,101,114,45,69,110,99,111,100,105,110,103]⟩:BA) (fun g' en=>(c4 en 0 (fun bs bx ha hb=>(c5 f (⟨#[67,111,110,116,101,110,116,45,73,100]⟩:BA) (fun bP bS=>(c5 f (⟨#[67,111,110,116,101,110,116,45,68,101,115,99,114,105,112,116,105,111,110]⟩:BA) (fun bV b0=>(c5 f (⟨#[67,111,110,116,101,110,116,45,76,111,99,97,116,105,111,110]⟩:BA) (fun b1 b2=>(c1 f (⟨#[67,111,110,116,101,110,116,45,68,105,115,112,111,115,105,116,105,111,110]⟩:BA) (fun hc ep=>(c4 ep 0 (fun O b3 et ey=>(bif O then (c3 et ey (fun e0 hd hf=>(M f a0 (⟨#[109,101,115,115,97,103,101]⟩:BA) (⟨#[114,102,99,56,50,50]⟩:BA) ([]:LA) bP bS bV b0 bs bx O b3 e0 ([]:LA) b1 b2 j m u z A))) else (M f a0 (⟨#[109,101,115,115,97,103,101]⟩:BA) (⟨#[114,102,99,56,50,50]⟩:BA) ([]:LA) bP bS bV b0 bs bx O b3 ([]:LA) ([]:LA) b1 b2 j m u z A)))))))))))))))) else (c1 f (⟨#[67,111,110,116,101,110,116,45,84,114,97,110,115,102,101,114,45,69,110,99,111,100,105,110,103]⟩:BA) (fun hg e1=>(c4 e1 0 (fun b4 b5 hh hi=>(c5 f (⟨#[67,111,110,116,101,110,116,45,73,100]⟩:BA) (fun b' ca=>(c5 f (⟨#[67,111,110,116,101,110,116,45,68,101,115,99,114,105,112,116,105,111,110]⟩:BA) (fun cl cp=>(c5 f (⟨#[67,111,110,116,101,110,116,45,76,111,99,97,116,105,111,110]⟩:BA) (fun ct c0=>(c1 f (⟨#[67,111,110,116,101,110,116,45,68,105,115,112,111,115,105,116,105,111,110]⟩:BA) (fun hj e2=>(c4 e2 0 (fun U c' e3 e4=>(bif U then (c3 e3 e4 (fun e5 hk hl=>(M f a0 (⟨#[116,101,120,116]⟩:BA) (⟨#[112,108,97,105,110]⟩:BA) [AV.agg [AV.str (⟨#[99,104,97,114,115,101,116]⟩:BA),AV.str (⟨#[117,115,45,97,115,99,105,105]⟩:BA)]] b' ca cl cp b4 b5 U c' e5 ([]:LA) ct c0 j m u z A))) else (M f a0 (⟨#[116,101,120,116]⟩:BA) (⟨#[112,108,97,105,110]⟩:BA) [AV.agg [AV.str (⟨#[99,104,97,114,115,101,116]⟩:BA),AV.str (⟨#[117,115,45,97,115,99,105,105]⟩:BA)]] b' ca cl cp b4 b5 U c' ([]:LA) ([]:LA) ct c0 j m u z A))))))))))))))))))))))
def oM {R:Type} (c1:df.F R) (c2:bg.F R) (c3:aL.F R) (c4:aB.F R) (c5:dn.F R) (c6:aJ.F R) (j:Q0 R):Nat->tJ R
 | 0=>fun _ _ _ _ _ _ _ _ _ _ _ _ _ _ _ _ _ _ _ _ _ _=>none
 | f+1=>t15 c1 c6 j
end dv
def dv {R:Type}:dv.F R:=fun a0 a1 a2 a3 a4 a5 V W X a9 j m a12 u z A M N O U f=>dv.e df bg aL aB dn aJ a0 a1 a2 a3 a4 a5 V W X a9 j m a12 u z A M N O U (dv.oM df bg aL aB dn aJ f ah) f
abbrev aE.Q0 (R:Type):Type:=T8 R
abbrev aE.F (R:Type):Type:=BA->Int->Int->Int->Y3->aE.Q0 R->Y1 R
namespace aE
def e {R:Type} (c1:dN.F R) (c2:ba.F R) (c3:dv.F R) (a0:BA) (a1 a2 a3:Int) (a4:Y3) (a8:Q0 R):Y1 R:=
 (bo ((decide (0<=a2))&&(decide (a2<=a3)&&decide (a3<=a0.size))) (c1 (a0.extract (a2).toNat (a3).toNat) (fun r6 r7=>(c2 r6 (fun bb=>(c3 (⟨#[]⟩:BA) (⟨#[]⟩:BA) (⟨#[]⟩:BA) false (⟨#[]⟩:BA) false (⟨#[]⟩:BA) false (⟨#[]⟩:BA) false (⟨#[]⟩:BA) false (⟨#[]⟩:BA) a2 (wrap .i64 (a2+(r6.size:Int))) (wrap .i64 (a2+(r6.size:Int))) a3 0 bb a4 (fun f j m u z A M N O U V W X Y ad ae ap ar ax a6 a7=>(a8 f j m u z A M N O U V W X Y ad ae ap ar ax a6 a7 a0 a1))))))))
end aE
def aE {R:Type}:aE.F R:=fun a0 a1 a2 a3 a4 f=>aE.e dN ba dv a0 a1 a2 a3 a4 f
abbrev bY.Q0 (R:Type):Type:=Y3->T3 R
abbrev bY.F (R:Type):Type:=BA->BA->BA->LA->Y3->BA->Y3->BA->Y3->BA->Y3->BA->LA->LA->Y3->BA->Int->Int->Int->Int->Int->bY.Q0 R->Y1 R
namespace bY
def e {R:Type} (a0 a1 a2:BA) (a3:LA) (a4:Y3) (a5:BA) (V:Y3) (W:BA) (X:Y3) (a9:BA) (f:Y3) (j:BA) (a12 m:LA) (u:Y3) (z:BA) (A M N O a20:Int) (U:Q0 R):Y1 R:=
 (bif decide (a1=(⟨#[109,101,115,115,97,103,101]⟩:BA)) then (U (decide (a2=(⟨#[114,102,99,56,50,50]⟩:BA))) a0 a1 a2 a3 a4 a5 V W X a9 f j a12 m u z A M N O a20) else (U false a0 a1 a2 a3 a4 a5 V W X a9 f j a12 m u z A M N O a20))
end bY
def bY {R:Type}:bY.F R:=fun a0 a1 a2 a3 a4 a5 V W X a9 f j a12 m u z A M N O a20 U=>bY.e a0 a1 a2 a3 a4 a5 V W X a9 f j a12 m u z A M N O a20 U
abbrev cV.F (R:Type):Type:=BA->BA->(BA->Y3->Y1 R)->Y1 R
namespace cV
def e {R:Type} (c1:b9.F R) (a0 a1:BA) (f:BA->Y3->Y1 R):Y1 R:=
 (c1 a0 a1 (fun j=>(bif !j then (f a0 false) else (bo ((decide (0<=(a1.size:Int)))&&(decide ((a1.size:Int)<=(a0.size:Int))&&decide ((a0.size:Int)<=(a0.size:Int)))) (f (a0.extract ((a1.size:Int)).toNat ((a0.size:Int)).toNat) true)))))
end cV
def cV {R:Type}:cV.F R:=fun a0 a1 f=>cV.e b9 a0 a1 f
abbrev cS.F (R:Type):Type:=BA->BA->(BA->Y3->Y1 R)->Y1 R
namespace cS
def e {R:Type} (c1:cV.F R) (a0 a1:BA) (m:BA->Y3->Y1 R):Y1 R:=
 (c1 a0 a1 (fun f j=>(m f j)))
end cS
def cS {R:Type}:cS.F R:=fun a0 a1 f=>cS.e cV a0 a1 f
abbrev cW.F (R:Type):Type:=BA->BA->(Y3->Y3->Y1 R)->Y1 R
namespace cW
def e {R:Type} (c1:cS.F R) (c2:bR.F R) (a0 a1:BA) (f:Y3->Y3->Y1 R):Y1 R:=
 (bo (decide ((⟨#[45,45]⟩:BA).size+a1.size<=9223372036854775807)) (c1 a0 ((⟨#[45,45]⟩:BA)++a1) (fun j m=>(bif !m then (f false false) else (c1 j (⟨#[45,45]⟩:BA) (fun u z=>(c2 u (⟨#[32,9]⟩:BA) (fun A=>(f (decide (A=(⟨#[]⟩:BA))) z)))))))))
end cW
def cW {R:Type}:cW.F R:=fun a0 a1 f=>cW.e cS bR a0 a1 f
abbrev bB.Q0 (R:Type):Type:=LA->BA->Int->Y1 R
abbrev bB.F (R:Type):Type:=BA->Int->Int->Int->BA->bB.Q0 R->Y1 R
namespace bB
abbrev J4 (R:Type):Type:=BA->Int->Int->BA->Int->Int->Int->LA->Y1 R
def t4 {R:Type} (c1:aO.F R) (c2:cW.F R) (V:J4 R) (M:Q0 R):J4 R:=
 fun x0 A m u N W j z=>(bif decide (m<=j) then (bo ((decide (0<=m))&&(decide (m<=j)&&decide (j<=u.size))) (c1 (u.extract (m).toNat (j).toNat) (⟨#[13,10]⟩:BA) (fun f=>(bif decide (f>=0) then (bo ((decide (0<=m))&&((decide (m<=(wrap .i64 (m+f))))&&(decide ((wrap .i64 (m+f))<=(u.size:Int))))) (c2 (u.extract (m).toNat ((wrap .i64 (m+f))).toNat) x0 (fun X O=>(bif X then (bif decide (A>=0) then (bo (decide ((z.length+1)*16<=140737488355328)) (bif O then (M (z++[AV.agg [AV.int A,AV.int (max2 A (wrap .i64 (m-2)))]]) u N) else (V x0 (min2 (wrap .i64 ((wrap .i64 (m+f))+2)) j) (wrap .i64 ((wrap .i64 (m+f))+2)) u N W j (z++[AV.agg [AV.int A,AV.int (max2 A (wrap .i64 (m-2)))]])))) else (bif O then (M z u N) else (V x0 (min2 (wrap .i64 ((wrap .i64 (m+f))+2)) j) (wrap .i64 ((wrap .i64 (m+f))+2)) u N W j z))) else (V x0 A (wrap .i64 ((wrap .i64 (m+f))+2)) u N W j z))))) else (bo ((decide (0<=m))&&(decide (m<=j)&&decide (j<=u.size))) (c2 (u.extract (m).toNat (j).toNat) x0 (fun Y U=>(bif Y then (bif decide (A>=0) then (bo (decide ((z.length+1)*16<=140737488355328)) (bif U then (M (z++[AV.agg [AV.int A,AV.int (max2 A (wrap .i64 (m-2)))]]) u N) else (V x0 (min2 (wrap .i64 (j+1)) j) (wrap .i64 (j+1)) u N W j (z++[AV.agg [AV.int A,AV.int (max2 A (wrap .i64 (m-2)))]])))) else (bif U then (M z u N) else (V x0 (min2 (wrap .i64 (j+1)) j) (wrap .i64 (j+1)) u N W j z))) else (V x0 A (wrap .i64 (j+1)) u N W j z))))))))) else (bif decide (A>=0) then (bo (decide ((z.length+1)*16<=140737488355328)) (M (z++[AV.agg [AV.int A,AV.int j]]) u N)) else (M z u N)))
def e {R:Type} (c1:aO.F R) (c2:cW.F R) (a0:BA) (a1 a2 a3:Int) (a4:BA) (f:J4 R) (j:Q0 R):Y1 R:=
 (f a4 (-1) a2 a0 a1 a2 a3 ([]:LA))
def L4 {R:Type} (c1:aO.F R) (c2:cW.F R) (j:Q0 R):Nat->J4 R
 | 0=>fun _ _ _ _ _ _ _ _=>none
 | f+1=>t4 c1 c2 (L4 c1 c2 j f) j
end bB
def bB {R:Type}:bB.F R:=fun a0 a1 a2 a3 a4 f=>bB.e aO cW a0 a1 a2 a3 a4 (bB.L4 aO cW f ah) f
abbrev aH.Q0 (R:Type):Type:=BA->Int->T3 R
abbrev aH.Q1 (R:Type):Type:=LA->BA->Int->T3 R
abbrev aH.F (R:Type):Type:=BA->Int->BA->BA->BA->LA->Y3->BA->Y3->BA->Y3->BA->Y3->BA->LA->LA->Y3->BA->Int->Int->Int->Int->Int->aH.Q0 R->aH.Q1 R->Y1 R
namespace aH
abbrev J8 (R:Type):Type:=LA->Int->Int->T8 R
def t8 {R:Type} (c2:bB.F R) (j8:J8 R) (a1:Q0 R) (a6:Q1 R):J8 R:=
 fun x0 x1 x2 x3 x4 x5 x6 x7 x8 x9 m u z A M N O U V W X f j Y ad ae=>(bif decide (x2<x1) then (bo (decide (0<=x2)&&decide (x2<x0.length)) (bif (decide (((bi x0 x2).fld 0).s=(⟨#[98,111,117,110,100,97,114,121]⟩:BA))) then (bif (decide ((((bi x0 x2).fld 1).s.size:Int)>=(1:Int))) then (bif (decide ((((bi x0 x2).fld 1).s.size:Int)<=(70:Int))) then (c2 ad ae f j ((bi x0 x2).fld 1).s (fun ap ar ax=>(a6 ap ar ax x3 x4 x5 x6 x7 x8 x9 m u z A M N O U V W X f j Y))) else (j8 x0 x1 (wrap .i64 (x2+1)) x3 x4 x5 x6 x7 x8 x9 m u z A M N O U V W X f j Y ad ae)) else (j8 x0 x1 (wrap .i64 (x2+1)) x3 x4 x5 x6 x7 x8 x9 m u z A M N O U V W X f j Y ad ae)) else (j8 x0 x1 (wrap .i64 (x2+1)) x3 x4 x5 x6 x7 x8 x9 m u z A M N O U V W X f j Y ad ae))) else (a1 ad ae x3 x4 x5 x6 x7 x8 x9 m u z A M N O U V W X f j Y))
def e {R:Type} (c1:bY.F R) (c2:bB.F R) (a0:BA) (a1:Int) (a2 a3 a4:BA) (a5:LA) (a6:Y3) (a7:BA) (a8:Y3) (a9:BA) (bP:Y3) (bS:BA) (a12:Y3) (bV:BA) (b0 b1:LA) (b2:Y3) (b3:BA) (b4 b5 a20 a21 b':Int) (j8:J8 R) (bs:Q0 R) (bk:Q1 R):Y1 R:=
 (c1 a2 a3 a4 a5 a6 a7 a8 a9 bP bS a12 bV b0 b1 b2 b3 b4 b5 a20 a21 b' (fun bx M z N u O U V W A m X Y ad ae ap ar ax bb f j be=>(bif bx then (bif A then (bif (!decide (m=(⟨#[55,98,105,116]⟩:BA))) then (bif (!decide (m=(⟨#[56,98,105,116]⟩:BA))) then (bif (!decide (m=(⟨#[98,105,110,97,114,121]⟩:BA))) then (bs a0 a1 M z N u O U V W A m X Y ad ae ap ar ax bb f j be) else (bk [AV.agg [AV.int f,AV.int j]] a0 a1 M z N u O U V W A m X Y ad ae ap ar ax bb f j be)) else (bk [AV.agg [AV.int f,AV.int j]] a0 a1 M z N u O U V W A m X Y ad ae ap ar ax bb f j be)) else (bk [AV.agg [AV.int f,AV.int j]] a0 a1 M z N u O U V W A m X Y ad ae ap ar ax bb f j be)) else (bk [AV.agg [AV.int f,AV.int j]] a0 a1 M z N u O U V W A m X Y ad ae ap ar ax bb f j be)) else (bif (!decide (z=(⟨#[109,117,108,116,105,112,97,114,116]⟩:BA))) then (bs a0 a1 M z N u O U V W A m X Y ad ae ap ar ax bb f j be) else (j8 u (u.length:Int) 0 M z N u O U V W A m X Y ad ae ap ar ax bb f j be a0 a1)))))
def L8 {R:Type} (c1:bY.F R) (c2:bB.F R) (j:Q0 R) (m:Q1 R):Nat->J8 R
 | 0=>fun _ _ _ _ _ _ _ _ _ _ _ _ _ _ _ _ _ _ _ _ _ _ _ _ _ _=>none
 | f+1=>t8 c2 (L8 c1 c2 j m f) j m
end aH
def aH {R:Type}:aH.F R:=fun a0 a1 a2 a3 a4 a5 X Y a8 a9 m u a12 z A M N O U V a20 a21 W f j=>aH.e bY bB a0 a1 a2 a3 a4 a5 X Y a8 a9 m u a12 z A M N O U V a20 a21 W (aH.L8 bY bB f j ah) f j
abbrev eu.F (R:Type):Type:=Int->(BA->Y1 R)->Y1 R
namespace eu
def e {R:Type} (a0:Int) (f:BA->Y1 R):Y1 R:=
 (bif decide (a0<10) then (bo ((decide (0<=a0))&&((decide (a0<=(wrap .i64 (a0+1))))&&(decide ((wrap .i64 (a0+1))<=((⟨#[48,49,50,51,52,53,54,55,56,57,97,98,99,100,101,102,103,104,105,106,107,108,109,110,111,112,113,114,115,116,117,118,119,120,121,122]⟩:BA).size:Int))))) (f ((⟨#[48,49,50,51,52,53,54,55,56,57,97,98,99,100,101,102,103,104,105,106,107,108,109,110,111,112,113,114,115,116,117,118,119,120,121,122]⟩:BA).extract (a0).toNat ((wrap .i64 (a0+1))).toNat))) else (bo ((decide (0<=(wrap .i64 (a0*2))))&&((decide ((wrap .i64 (a0*2))<=(wrap .i64 ((wrap .i64 (a0*2))+2))))&&(decide ((wrap .i64 ((wrap .i64 (a0*2))+2))<=((⟨#[48,48,48,49,48,50,48,51,48,52,48,53,48,54,48,55,48,56,48,57,49,48,49,49,49,50,49,51,49,52,49,53,49,54,49,55,49,56,49,57,50,48,50,49,50,50,50,51,50,52,50,53,50,54,50,55,50,56,50,57,51,48,51,49,51,50,51,51,51,52,51,53,51,54,51,55,51,56,51,57,52,48,52,49,52,50,52,51,52,52,52,53,52,54,52,55,52,56,52,57,53,48,53,49,53,50,53,51,53,52,53,53,53,54,53,55,53,56,53,57,54,48,54,49,54,50,54,51,54,52,54,53,54,54,54,55,54,56,54,57,55,48,55,49,55,50,55,51,55,52,55,53,55,54,55,55,55,56,55,57,56,48,56,49,56,50,56,51,56,52,56,53,56,54,56,55,56,56,56,57,57,48,57,49,57,50,57,51,57,52,57,53,57,54,57,55,57,56,57,57]⟩:BA).size:Int))))) (f ((⟨#[48,48,48,49,48,50,48,51,48,52,48,53,48,54,48,55,48,56,48,57,49,48,49,49,49,50,49,51,49,52,49,53,49,54,49,55,49,56,49,57,50,48,50,49,50,50,50,51,50,52,50,53,50,54,50,55,50,56,50,57,51,48,51,49,51,50,51,51,51,52,51,53,51,54,51,55,51,56,51,57,52,48,52,49,52,50,52,51,52,52,52,53,52,54,52,55,52,56,52,57,53,48,53,49,53,50,53,51,53,52,53,53,53,54,53,55,53,56,53,57,54,48,54,49,54,50,54,51,54,52,54,53,54,54,54,55,54,56,54,57,55,48,55,49,55,50,55,51,55,52,55,53,55,54,55,55,55,56,55,57,56,48,56,49,56,50,56,51,56,52,56,53,56,54,56,55,56,56,56,57,57,48,57,49,57,50,57,51,57,52,57,53,57,54,57,55,57,56,57,57]⟩:BA).extract ((wrap .i64 (a0*2))).toNat ((wrap .i64 ((wrap .i64 (a0*2))+2))).toNat))))
end eu
def eu {R:Type}:eu.F R:=fun a0 f=>eu.e a0 f
abbrev di.F (R:Type):Type:=Int->Int->(BA->Y1 R)->Y1 R
namespace di
def e {R:Type} (c1:eu.F R) (a0 a1:Int) (j:BA->Y1 R):Y1 R:=
 (bif (a1 == 10) then (bif decide (0<=a0) then (bif decide (a0<100) then (c1 a0 (fun f=>(j f))) else (bif decide (a0<0) then none else none)) else (bif decide (a0<0) then none else none)) else none)
end di
def di {R:Type}:di.F R:=fun a0 a1 f=>di.e eu a0 a1 f
abbrev eP.F (R:Type):Type:=Int->(BA->Y1 R)->Y1 R
namespace eP
def e {R:Type} (c1:di.F R) (a0:Int) (j:BA->Y1 R):Y1 R:=
 (c1 a0 10 (fun f=>(j f)))
end eP
def eP {R:Type}:eP.F R:=fun a0 f=>eP.e di a0 f
abbrev cH.F (R:Type):Type:=Int->(BA->Y1 R)->Y1 R
namespace cH
def e {R:Type} (c1:eP.F R) (a0:Int) (j:BA->Y1 R):Y1 R:=
 (c1 a0 (fun f=>(j f)))
end cH
def cH {R:Type}:cH.F R:=fun a0 f=>cH.e eP a0 f
abbrev aV.F (R:Type):Type:=BA->(Int->Y1 R)->Y1 R
namespace aV
abbrev J2 (R:Type):Type:=Int->BA->Nat->Y1 R
def t2 {R:Type} (u:J2 R) (f:Int->Y1 R):J2 R:=
 fun x0 j m=>(bif decide (m<j.size) then (u (wrap .i64 (x0+1)) j (m+(Utf8.decode j m).2)) else (f x0))
def e {R:Type} (a0:BA) (f:J2 R) (j:Int->Y1 R):Y1 R:=
 (f 0 a0 0)
def L2 {R:Type} (j:Int->Y1 R):Nat->J2 R
 | 0=>fun _ _ _=>none
 | f+1=>t2 (L2 j f) j
end aV
def aV {R:Type}:aV.F R:=fun a0 f=>aV.e a0 (aV.L2 f ah) f
abbrev bX.F (R:Type):Type:=BA->BA->(Int->Y1 R)->Y1 R
namespace bX
abbrev J6 (R:Type):Type:=BA->BA->Int->Y1 R
def t6 {R:Type} (c2:aO.F R) (z:J6 R) (m:Int->Y1 R):J6 R:=
 fun x0 j u=>(c2 x0 j (fun f=>(bif (f == (-1)) then (m u) else (bo ((decide (0<=(wrap .i64 (f+(j.size:Int)))))&&((decide ((wrap .i64 (f+(j.size:Int)))<=(x0.size:Int)))&&(decide ((x0.size:Int)<=(x0.size:Int))))) (z (x0.extract ((wrap .i64 (f+(j.size:Int)))).toNat ((x0.size:Int)).toNat) j (wrap .i64 (u+1)))))))
def e {R:Type} (c1:aV.F R) (c2:aO.F R) (a0 a1:BA) (m:J6 R) (j:Int->Y1 R):Y1 R:=
 (bif ((a1.size:Int) == 0) then (c1 a0 (fun f=>(j (wrap .i64 (f+1))))) else (bif ((a1.size:Int) == 1) then (bo (decide (0<(a1.size:Int))) none) else (m a0 a1 0)))
def L6 {R:Type} (c1:aV.F R) (c2:aO.F R) (j:Int->Y1 R):Nat->J6 R
 | 0=>fun _ _ _=>none
 | f+1=>t6 c2 (L6 c1 c2 j f) j
end bX
def bX {R:Type}:bX.F R:=fun a0 a1 f=>bX.e aV aO a0 a1 (bX.L6 aV aO f ah) f
abbrev an.Q0 (R:Type):Type:=Y3->BA->BA->BA->LA->T0 R
abbrev an.F (R:Type):Type:=BA->BA->BA->LA->Y3->BA->Y3->BA->Y3->BA->Y3->BA->LA->LA->Y3->BA->Int->Int->Int->Int->Int->LA->an.Q0 R->Y1 R
namespace an
def e {R:Type} (a0 a1 a2:BA) (a3:LA) (a4:Y3) (a5:BA) (V:Y3) (W:BA) (X:Y3) (a9:BA) (f:Y3) (j:BA) (a12 m:LA) (u:Y3) (z:BA) (A M N O a20:Int) (a21:LA) (U:Q0 R):Y1 R:=
 (bif decide (a1=(⟨#[109,101,115,115,97,103,101]⟩:BA)) then (U (decide (a2=(⟨#[114,102,99,56,50,50]⟩:BA))) a0 a1 a2 a3 a4 a5 V W X a9 f j a12 m u z A M N O a20 a21) else (U false a0 a1 a2 a3 a4 a5 V W X a9 f j a12 m u z A M N O a20 a21))
end an
def an {R:Type}:an.F R:=fun a0 a1 a2 a3 a4 a5 V W X a9 f j a12 m u z A M N O a20 a21 U=>an.e a0 a1 a2 a3 a4 a5 V W X a9 f j a12 m u z A M N O a20 a21 U
abbrev aD.Q0 (R:Type):Type:=Y3->BA->BA->BA->LA->T0 R
abbrev aD.F (R:Type):Type:=BA->BA->BA->LA->Y3->BA->Y3->BA->Y3->BA->Y3->BA->LA->LA->Y3->BA->Int->Int->Int->Int->Int->LA->aD.Q0 R->Y1 R
namespace aD
def e {R:Type} (a0 a1 a2:BA) (a3:LA) (a4:Y3) (a5:BA) (V:Y3) (W:BA) (X:Y3) (a9:BA) (f:Y3) (j:BA) (a12 m:LA) (u:Y3) (z:BA) (A M N O a20:Int) (a21:LA) (U:Q0 R):Y1 R:=
 (bif decide (a1=(⟨#[109,101,115,115,97,103,101]⟩:BA)) then (U (decide (a2=(⟨#[114,102,99,56,50,50]⟩:BA))) a0 a1 a2 a3 a4 a5 V W X a9 f j a12 m u z A M N O a20 a21) else (U false a0 a1 a2 a3 a4 a5 V W X a9 f j a12 m u z A M N O a20 a21))
end aD
def aD {R:Type}:aD.F R:=fun a0 a1 a2 a3 a4 a5 V W X a9 f j a12 m u z A M N O a20 a21 U=>aD.e a0 a1 a2 a3 a4 a5 V W X a9 f j a12 m u z A M N O a20 a21 U
abbrev cd.Q0 (R:Type):Type:=BA->BA->BA->BA->LA->T0 R
abbrev cd.F (R:Type):Type:=BA->BA->BA->LA->Y3->BA->Y3->BA->Y3->BA->Y3->BA->LA->LA->Y3->BA->Int->Int->Int->Int->Int->LA->Int->Y3->Int->cd.Q0 R->Y1 R
namespace cd
def e {R:Type} (c1:aD.F R) (c2:cH.F R) (a0 a1 a2:BA) (a3:LA) (a4:Y3) (a5:BA) (a6:Y3) (a7:BA) (a8:Y3) (a9:BA) (b3:Y3) (b4:BA) (a12 b5:LA) (b':Y3) (ca:BA) (cl cp ct c0 a20:Int) (a21:LA) (c':Int) (dg:Y3) (a24:Int) (bs:Q0 R):Y1 R:=
 (c1 a0 a1 a2 a3 a4 a5 a6 a7 a8 a9 b3 b4 a12 b5 b' ca cl cp ct c0 a20 a21 (fun bV f j m u z A M N O U V W X Y ad ae ap ar ax bb be bk=>(bif bV then (bif decide (c'>(0:Int)) then (bif !dg then (bs f f j m u z A M N O U V W X Y ad ae ap ar ax bb be bk) else (bif decide (f=(⟨#[]⟩:BA)) then (c2 a24 (fun b0=>(bs b0 f j m u z A M N O U V W X Y ad ae ap ar ax bb be bk))) else (bo (decide (f.size+(⟨#[46]⟩:BA).size<=9223372036854775807)) (c2 a24 (fun bx=>(bo (decide ((f++(⟨#[46]⟩:BA)).size+bx.size<=9223372036854775807)) (bs ((f++(⟨#[46]⟩:BA))++bx) f j m u z A M N O U V W X Y ad ae ap ar ax bb be bk))))))) else (bif decide (f=(⟨#[]⟩:BA)) then (c2 a24 (fun b1=>(bs b1 f j m u z A M N O U V W X Y ad ae ap ar ax bb be bk))) else (bo (decide (f.size+(⟨#[46]⟩:BA).size<=9223372036854775807)) (c2 a24 (fun bP=>(bo (decide ((f++(⟨#[46]⟩:BA)).size+bP.size<=9223372036854775807)) (bs ((f++(⟨#[46]⟩:BA))++bP) f j m u z A M N O U V W X Y ad ae ap ar ax bb be bk))))))) else (bif decide (f=(⟨#[]⟩:BA)) then (c2 a24 (fun b2=>(bs b2 f j m u z A M N O U V W X Y ad ae ap ar ax bb be bk))) else (bo (decide (f.size+(⟨#[46]⟩:BA).size<=9223372036854775807)) (c2 a24 (fun bS=>(bo (decide ((f++(⟨#[46]⟩:BA)).size+bS.size<=9223372036854775807)) (bs ((f++(⟨#[46]⟩:BA))++bS) f j m u z A M N O U V W X Y ad ae ap ar ax bb be bk)))))))))
end cd
def cd {R:Type}:cd.F R:=fun a0 a1 a2 a3 a4 a5 X Y a8 a9 f j a12 m u z A M N O a20 a21 U V a24 W=>cd.e aD cH a0 a1 a2 a3 a4 a5 X Y a8 a9 f j a12 m u z A M N O a20 a21 U V a24 W
abbrev al.Q0 (R:Type):Type:=BA->Int->BA->BA->BA->LA->T0 R
abbrev al.Q1 (R:Type):Type:=BA->Int->BA->BA->BA->T0 R
abbrev al.F (R:Type):Type:=BA->Int->BA->BA->BA->LA->Y3->BA->Y3->BA->Y3->BA->Y3->BA->LA->LA->Y3->BA->Int->Int->Int->Int->Int->Int->Y3->al.Q0 R->al.Q1 R->Y1 R
namespace al
abbrev J2 (R:Type):Type:=Int->Y3->BA->BA->BA->LA->Y3->BA->Y3->BA->Y3->BA->Y3->BA->LA->LA->Y3->BA->Int->Int->Int->Int->Int->BA->Int->LA->Y1 R
abbrev J5 (R:Type):Type:=Int->Y3->Int->Int->BA->BA->BA->LA->Y3->BA->Y3->BA->Y3->BA->Y3->BA->LA->LA->Y3->BA->Int->Int->Int->Int->Int->BA->Int->LA->LA->Y1 R
abbrev J8 (R:Type):Type:=Int->Y3->Int->Int->Int->BA->BA->BA->LA->Y3->BA->Y3->BA->Y3->BA->Y3->BA->LA->LA->Y3->BA->Int->Int->Int->Int->Int->BA->Int->LA->BA->BA->BA->LA->T0 R
abbrev An (R:Type):Type:=Int->Y3->Int->Int->BA->BA->BA->LA->Y3->BA->Y3->BA->Y3->BA->Y3->BA->LA->LA->Y3->BA->Int->Int->Int->Int->Int->BA->Int->LA->LA->Y1 R
abbrev tJ (R:Type):Type:=BA->BA->BA->LA->Y3->BA->Y3->BA->Y3->BA->Y3->BA->LA->LA->Y3->BA->Int->Int->Int->Int->Int->LA->BA->Int->Y1 R
def Fm:=fun x0 x1 x2 x3 x4 x5 x6 x7 x8 x9 f j m u z A M N O U V W X Y ad ae ap ar ax=>(⟨eA 156 [(0,.ptr 0 0),(1,.ptr 1 0),(2,.int .i64 x0),(3,.bool x1),(40,.own 2624),(41,.int .i64 x2),(42,.int .i64 x3)],[(1,.var 32 [.str x4,.str x5,.str x6,.ro 129 x7 true,.bool x8,.str x9,.bool f,.str j,.bool m,.str u,.bool z,.str A,.ro 129 M true,.ro 9 N true,.bool O,.str U,.int .i64 V,.int .i64 W,.int .i64 X,.int .i64 Y,.int .i64 ad,.own 149]),(0,.var 94 [.str ae,.int .i64 ap]),(149,.row 32 ar true),(2624,.row 29 ax true)],ez⟩:St)
def t2 {R:Type} (j5:J5 R) (ap:tJ R):J2 R:=
 fun x0 x1 x2 x3 x4 x5 x6 x7 x8 x9 m u z A M N O U V W X Y ad ae f j=>(bif decide (x0<5) then (bif (decide ((wrap .i64 (f+(j.length:Int)))<=(16:Int))) then (j5 x0 x1 (j.length:Int) 0 x2 x3 x4 x5 x6 x7 x8 x9 m u z A M N O U V W X Y ad ae (wrap .i64 (f+(j.length:Int))) ([]:LA) j) else (ap x2 x3 x4 x5 x6 x7 x8 x9 m u z A M N O U V W X Y ad ([]:LA) ae f)) else (ap x2 x3 x4 x5 x6 x7 x8 x9 m u z A M N O U V W X Y ad ([]:LA) ae f))
def t5 {R:Type} (c2:aE.F R) (j8:J8 R) (fs:tJ R):J5 R:=
 fun x0 x1 x2 j x4 x5 x6 x7 x8 x9 m u z A M N O U V W X Y ad ae ap ar ax a1 f=>(bif decide (j<x2) then (bo (decide (0<=j)&&decide (j<f.length)) (bif decide (x5=(⟨#[109,117,108,116,105,112,97,114,116]⟩:BA)) then (c2 ar ax ((bi f j).fld 0).i ((bi f j).fld 1).i (decide (x6=(⟨#[100,105,103,101,115,116]⟩:BA))) (fun a6 a7 a8 bb be bk bs bx bP bS bV b0 b1 b2 b3 b4 b5 b' ca cl cp ct c0=>(j8 x0 x1 j x2 j x4 x5 x6 x7 x8 x9 m u z A M N O U V W X Y ad ae ap ct c0 a1 a6 a7 a8 bb be bk bs bx bP bS bV b0 b1 b2 b3 b4 b5 b' ca cl cp f))) else (c2 ar ax ((bi f j).fld 0).i ((bi f j).fld 1).i false (fun c' dg dr d' ea eb ed ei ek en ep et ey e0 e1 e2 e3 e4 e5 e' fl fo fr=>(j8 x0 x1 j x2 j x4 x5 x6 x7 x8 x9 m u z A M N O U V W X Y ad ae ap fo fr a1 c' dg dr d' ea eb ed ei ek en ep et ey e0 e1 e2 e3 e4 e5 e' fl f))))) else (fs x4 x5 x6 x7 x8 x9 m u z A M N O U V W X Y ad ae ap a1 ar ax))
def t8 {R:Type} (c5:cd.F R) (c6:aD.F R) (c7:al.F R) (hA:An R):J8 R:=
 fun x0 x1 x2 x3 x4 x5 x6 x7 x8 x9 hB hC hD hE hF hJ hK hL hM hN hO hP hQ hR hS hT hU hV hW j4 hX h0 h1 h2 h3 h4 h5 h6 h7 h8 h9 h' ih ii ix i' j0 j1 j2 j3 f'=>(c5 x5 x6 x7 x8 x9 hB hC hD hE hF hJ hK hL hM hN hO hP hQ hR hS hT hW x0 x1 (wrap .i64 (x2+1)) (fun gb gr g' ha hb hc hd hf hg hh hi hj hk hl hn ho hp hq hr hs ht hv hx=>(c6 gr g' ha hb hc hd hf hg hh hi hj hk hl hn ho hp hq hr hs ht hv hx (fun hz j m u z A M N O U V W X Y ad ae ap ar ax a1 a6 a7 f=>(c7 hU hV gb hX h0 h1 h2 h3 h4 h5 h6 h7 h8 h9 h' ih ii ix i' j0 j1 j2 j3 (wrap .i64 (x0+1)) hz (fun a8 bb be bk bs bx bP bS bV b0 b1 b2 b3 b4 b5 b' ca cl cp ct c0 c' dg dr=>(bo (decide ((f.length+1)*304<=140737488355328)) (bo (decide ((f.length+1)*304<=140737488355328)) (bo ((decide (0<=(f.length:Int)))&&(decide ((f.length:Int)<((f++[AV.agg [AV.str (⟨#[]⟩:BA),AV.str (⟨#[]⟩:BA),AV.str (⟨#[]⟩:BA),AV.sl [],AV.bool false,AV.str (⟨#[]⟩:BA),AV.bool false,AV.str (⟨#[]⟩:BA),AV.bool false,AV.str (⟨#[]⟩:BA),AV.bool false,AV.str (⟨#[]⟩:BA),AV.sl [],AV.sl [],AV.bool false,AV.str (⟨#[]⟩:BA),AV.int 0,AV.int 0,AV.int 0,AV.int 0,AV.int 0,AV.sl []]]).length:Int)))) (bo (CC (Fm x0 x1 x3 x4 j m u z A M N O U V W X Y ad ae ap ar ax a1 a6 a7 a8 bb (f++[AV.agg [AV.str be,AV.str bk,AV.str bs,AV.sl bx,AV.bool bP,AV.str bS,AV.bool bV,AV.str b0,AV.bool b1,AV.str b2,AV.bool b3,AV.str b4,AV.sl b5,AV.sl b',AV.bool ca,AV.str cl,AV.int cp,AV.int ct,AV.int c0,AV.int c',AV.int dg,AV.sl dr]]) f') (Fm x0 x1 x3 x4 j m u z A M N O U V W X Y ad ae ap ar ax a1 a6 a7 a8 bb (eF (f++[AV.agg [AV.str (⟨#[]⟩:BA),AV.str (⟨#[]⟩:BA),AV.str (⟨#[]⟩:BA),AV.sl [],AV.bool false,AV.str (⟨#[]⟩:BA),AV.bool false,AV.str (⟨#[]⟩:BA),AV.bool false,AV.str (⟨#[]⟩:BA),AV.bool false,AV.str (⟨#[]⟩:BA),AV.sl [],AV.sl [],AV.bool false,AV.str (⟨#[]⟩:BA),AV.int 0,AV.int 0,AV.int 0,AV.int 0,AV.int 0,AV.sl []]]) (f.length:Int) (AV.agg [AV.str be,AV.str bk,AV.str bs,AV.sl bx,AV.bool bP,AV.str bS,AV.bool bV,AV.str b0,AV.bool b1,AV.str b2,AV.bool b3,AV.str b4,AV.sl b5,AV.sl b',AV.bool ca,AV.str cl,AV.int cp,AV.int ct,AV.int c0,AV.int c',AV.int dg,AV.sl dr])) f')) (hA x0 x1 x3 x4 j m u z A M N O U V W X Y ad ae ap ar ax a1 a6 a7 a8 bb (eF (f++[AV.agg [AV.str (⟨#[]⟩:BA),AV.str (⟨#[]⟩:BA),AV.str (⟨#[]⟩:BA),AV.sl [],AV.bool false,AV.str (⟨#[]⟩:BA),AV.bool false,AV.str (⟨#[]⟩:BA),AV.bool false,AV.str (⟨#[]⟩:BA),AV.bool false,AV.str (⟨#[]⟩:BA),AV.sl [],AV.sl [],AV.bool false,AV.str (⟨#[]⟩:BA),AV.int 0,AV.int 0,AV.int 0,AV.int 0,AV.int 0,AV.sl []]]) (f.length:Int) (AV.agg [AV.str be,AV.str bk,AV.str bs,AV.sl bx,AV.bool bP,AV.str bS,AV.bool bV,AV.str b0,AV.bool b1,AV.str b2,AV.bool b3,AV.str b4,AV.sl b5,AV.sl b',AV.bool ca,AV.str cl,AV.int cp,AV.int ct,AV.int c0,AV.int c',AV.int dg,AV.sl dr])) f')))))) (fun d' ea eb ed ei ek en ep et ey e0 e1 e2 e3 e4 e5 e' fl fo fr fs fu fz=>(bo (decide ((f.length+1)*304<=140737488355328)) (bo (decide ((f.length+1)*304<=140737488355328)) (bo ((decide (0<=(f.length:Int)))&&(decide ((f.length:Int)<((f++[AV.agg [AV.str (⟨#[]⟩:BA),AV.str (⟨#[]⟩:BA),AV.str (⟨#[]⟩:BA),AV.sl [],AV.bool false,AV.str (⟨#[]⟩:BA),AV.bool false,AV.str (⟨#[]⟩:BA),AV.bool false,AV.str (⟨#[]⟩:BA),AV.bool false,AV.str (⟨#[]⟩:BA),AV.sl [],AV.sl [],AV.bool false,AV.str (⟨#[]⟩:BA),AV.int 0,AV.int 0,AV.int 0,AV.int 0,AV.int 0,AV.sl []]]).length:Int)))) (bo (CC (Fm x0 x1 x3 x4 j m u z A M N O U V W X Y ad ae ap ar ax a1 a6 a7 d' ea (f++[AV.agg [AV.str eb,AV.str ed,AV.str ei,AV.sl [],AV.bool ek,AV.str en,AV.bool ep,AV.str et,AV.bool ey,AV.str e0,AV.bool e1,AV.str e2,AV.sl e3,AV.sl e4,AV.bool e5,AV.str e',AV.int fl,AV.int fo,AV.int fr,AV.int fs,AV.int fu,AV.sl fz]]) f') (Fm x0 x1 x3 x4 j m u z A M N O U V W X Y ad ae ap ar ax a1 a6 a7 d' ea (eF (f++[AV.agg [AV.str (⟨#[]⟩:BA),AV.str (⟨#[]⟩:BA),AV.str (⟨#[]⟩:BA),AV.sl [],AV.bool false,AV.str (⟨#[]⟩:BA),AV.bool false,AV.str (⟨#[]⟩:BA),AV.bool false,AV.str (⟨#[]⟩:BA),AV.bool false,AV.str (⟨#[]⟩:BA),AV.sl [],AV.sl [],AV.bool false,AV.str (⟨#[]⟩:BA),AV.int 0,AV.int 0,AV.int 0,AV.int 0,AV.int 0,AV.sl []]]) (f.length:Int) (AV.agg [AV.str eb,AV.str ed,AV.str ei,AV.sl [],AV.bool ek,AV.str en,AV.bool ep,AV.str et,AV.bool ey,AV.str e0,AV.bool e1,AV.str e2,AV.sl e3,AV.sl e4,AV.bool e5,AV.str e',AV.int fl,AV.int fo,AV.int fr,AV.int fs,AV.int fu,AV.sl fz])) f')) (hA x0 x1 x3 x4 j m u z A M N O U V W X Y ad ae ap ar ax a1 a6 a7 d' ea (eF (f++[AV.agg [AV.str (⟨#[]⟩:BA),AV.str (⟨#[]⟩:BA),AV.str (⟨#[]⟩:BA),AV.sl [],AV.bool false,AV.str (⟨#[]⟩:BA),AV.bool false,AV.str (⟨#[]⟩:BA),AV.bool false,AV.str (⟨#[]⟩:BA),AV.bool false,AV.str (⟨#[]⟩:BA),AV.sl [],AV.sl [],AV.bool false,AV.str (⟨#[]⟩:BA),AV.int 0,AV.int 0,AV.int 0,AV.int 0,AV.int 0,AV.sl []]]) (f.length:Int) (AV.agg [AV.str eb,AV.str ed,AV.str ei,AV.sl [],AV.bool ek,AV.str en,AV.bool ep,AV.str et,AV.bool ey,AV.str e0,AV.bool e1,AV.str e2,AV.sl e3,AV.sl e4,AV.bool e5,AV.str e',AV.int fl,AV.int fo,AV.int fr,AV.int fs,AV.int fu,AV.sl fz])) f')))))))))))
def t14 {R:Type} (j5:J5 R):An R:=
 fun x0 x1 x2 x3 x4 x5 x6 x7 x8 x9 f j m u z A M N O U V W X Y ad ae ap ar ax=>(j5 x0 x1 x2 (wrap .i64 (x3+1)) x4 x5 x6 x7 x8 x9 f j m u z A M N O U V W X Y ad ae ap ar ax)
def t15 {R:Type} (c3:bX.F R) (c4:an.F R) (d':Q0 R) (e5:Q1 R):tJ R:=
 fun x0 x1 x2 x3 x4 x5 x6 x7 x8 x9 eb ed ei ek en ep et ey a6 a7 e' ea f a8=>(bo ((decide (0<=a6))&&(decide (a6<=a7)&&decide (a7<=f.size))) (c3 (f.extract (a6).toNat (a7).toNat) (⟨#[13,10]⟩:BA) (fun bb=>(bif decide ((ea.length:Int)>(0:Int)) then (c4 x0 x1 x2 x3 x4 x5 x6 x7 x8 x9 eb ed ei ek en ep et ey a6 a7 e' ea (fun e0 be bk bs bx bP bS bV b0 b1 b2 b3 b4 b5 b' ca cl cp ct c0 c' e1 dg=>(bif e0 then (d' f a8 be bk bs bx bP bS bV b0 b1 b2 b3 b4 b5 b' ca cl cp ct c0 c' bb dg) else (d' f a8 be bk bs bx bP bS bV b0 b1 b2 b3 b4 b5 b' ca cl cp ct c0 c' e1 dg)))) else (bif decide (x1=(⟨#[116,101,120,116]⟩:BA)) then (d' f a8 x0 x1 x2 x3 x4 x5 x6 x7 x8 x9 eb ed ei ek en ep et ey a6 a7 bb ea) else (c4 x0 x1 x2 x3 x4 x5 x6 x7 x8 x9 eb ed ei ek en ep et ey a6 a7 e' ea (fun e2 j dr e3 e4 m u z A M N O U V W X Y ad ae ap ar ax a1=>(bif e2 then (e5 f a8 j (⟨#[97,112,112,108,105,99,97,116,105,111,110]⟩:BA) (⟨#[111,99,116,101,116,45,115,116,114,101,97,109]⟩:BA) m u z A M N O U V W X Y ad ae ap ar ax a1) else (bif decide (dr=(⟨#[109,117,108,116,105,112,97,114,116]⟩:BA)) then (e5 f a8 j (⟨#[97,112,112,108,105,99,97,116,105,111,110]⟩:BA) (⟨#[111,99,116,101,116,45,115,116,114,101,97,109]⟩:BA) m u z A M N O U V W X Y ad ae ap ar ax a1) else (d' f a8 j dr e3 e4 m u z A M N O U V W X Y ad ae ap ar ax a1))))))))))
def e {R:Type} (c1:aH.F R) (c2:aE.F R) (c3:bX.F R) (c4:an.F R) (c5:cd.F R) (c6:aD.F R) (c7:al.F R) (a0:BA) (a1:Int) (a2 a3 a4:BA) (a5:LA) (a6:Y3) (a7:BA) (a8:Y3) (a9:BA) (en:Y3) (ep:BA) (a12:Y3) (et:BA) (ey e0:LA) (e1:Y3) (e2:BA) (e3 e4 a20 a21 e5 ek:Int) (a24:Y3) (j2:J2 R) (j5:J5 R) (j8:J8 R) (e':An R) (fl:tJ R) (fo:Q0 R) (fr:Q1 R):Y1 R:=
 (c1 a0 a1 a2 a3 a4 a5 a6 a7 a8 a9 en ep a12 et ey e0 e1 e2 e3 e4 a20 a21 e5 (fun f j m u z A M N O U V W X Y ad ae ap ar ax bb be bk bs=>(j2 ek a24 m u z A M N O U V W X Y ad ae ap ar ax bb be bk bs f j ([]:LA))) (fun bx bP bS bV b0 b1 b2 b3 b4 b5 b' ca cl cp ct c0 c' dg dr d' ea eb ed ei=>(j2 ek a24 bV b0 b1 b2 b3 b4 b5 b' ca cl cp ct c0 c' dg dr d' ea eb ed ei bP bS bx)))
def oM {R:Type} (c1:aH.F R) (c2:aE.F R) (c3:bX.F R) (c4:an.F R) (c5:cd.F R) (c6:aD.F R) (c7:al.F R) (j:Q0 R) (m:Q1 R):Nat->tJ R
 | 0=>fun _ _ _ _ _ _ _ _ _ _ _ _ _ _ _ _ _ _ _ _ _ _ _ _=>none
 | f+1=>t15 c3 c4 j m
def M5 {R:Type} (c1:aH.F R) (c2:aE.F R) (c3:bX.F R) (c4:an.F R) (c5:cd.F R) (c6:aD.F R) (c7:al.F R) (j:Q0 R) (m:Q1 R):Nat->(J5 R) × (J8 R) × (An R)
 | 0=>(fun _ _ _ _ _ _ _ _ _ _ _ _ _ _ _ _ _ _ _ _ _ _ _ _ _ _ _ _ _=>none,fun _ _ _ _ _ _ _ _ _ _ _ _ _ _ _ _ _ _ _ _ _ _ _ _ _ _ _ _ _ _ _ _ _ _ _ _ _ _ _ _ _ _ _ _ _ _ _ _ _ _ _=>none,fun _ _ _ _ _ _ _ _ _ _ _ _ _ _ _ _ _ _ _ _ _ _ _ _ _ _ _ _ _=>none)
 | f+1=>(t5 c2 ((M5 c1 c2 c3 c4 c5 c6 c7 j m f).2.1) (oM c1 c2 c3 c4 c5 c6 c7 j m f),
  t8 c5 c6 c7 ((M5 c1 c2 c3 c4 c5 c6 c7 j m f).2.2),
  t14 ((M5 c1 c2 c3 c4 c5 c6 c7 j m f).1))
def L5 {R:Type} (c1:aH.F R) (c2:aE.F R) (c3:bX.F R) (c4:an.F R) (c5:cd.F R) (c6:aD.F R) (c7:al.F R) (j:Q0 R) (m:Q1 R) (f:Nat):J5 R:=(M5 c1 c2 c3 c4 c5 c6 c7 j m f).1
def L8 {R:Type} (c1:aH.F R) (c2:aE.F R) (c3:bX.F R) (c4:an.F R) (c5:cd.F R) (c6:aD.F R) (c7:al.F R) (j:Q0 R) (m:Q1 R) (f:Nat):J8 R:=(M5 c1 c2 c3 c4 c5 c6 c7 j m f).2.1
def BI {R:Type} (c1:aH.F R) (c2:aE.F R) (c3:bX.F R) (c4:an.F R) (c5:cd.F R) (c6:aD.F R) (c7:al.F R) (j:Q0 R) (m:Q1 R) (f:Nat):An R:=(M5 c1 c2 c3 c4 c5 c6 c7 j m f).2.2
def L2 {R:Type} (c1:aH.F R) (c2:aE.F R) (c3:bX.F R) (c4:an.F R) (c5:cd.F R) (c6:aD.F R) (c7:al.F R) (j:Q0 R) (m:Q1 R):Nat->J2 R
 | 0=>fun _ _ _ _ _ _ _ _ _ _ _ _ _ _ _ _ _ _ _ _ _ _ _ _ _ _=>none
 | f+1=>t2 (L5 c1 c2 c3 c4 c5 c6 c7 j m f) (oM c1 c2 c3 c4 c5 c6 c7 j m f)
def B {R:Type} (c1:aH.F R) (c2:aE.F R) (c3:bX.F R) (c4:an.F R) (c5:cd.F R) (c6:aD.F R) (c7:al.F R):F R:=fun a0 a1 a2 a3 a4 a5 Y a7 a8 a9 m u a12 z A M N O U V a20 a21 W X a24 f j=>e c1 c2 c3 c4 c5 c6 c7 a0 a1 a2 a3 a4 a5 Y a7 a8 a9 m u a12 z A M N O U V a20 a21 W X a24 (L2 c1 c2 c3 c4 c5 c6 c7 f j ah) (L5 c1 c2 c3 c4 c5 c6 c7 f j ah) (L8 c1 c2 c3 c4 c5 c6 c7 f j ah) (BI c1 c2 c3 c4 c5 c6 c7 f j ah) (oM c1 c2 c3 c4 c5 c6 c7 f j ah) f j
def R {R:Type}:Nat->F R
 | 0=>fun _ _ _ _ _ _ _ _ _ _ _ _ _ _ _ _ _ _ _ _ _ _ _ _ _ _ _=>none
 | n+1=>B aH aE bX an cd aD (al.R n)
end al
def al {R:Type}:al.F R:=al.R ah
abbrev bh.Q0 (R:Type):Type:=BA->BA->BA->LA->T0 R
abbrev bh.F (R:Type):Type:=BA->bh.Q0 R->Y1 R
namespace bh
abbrev J4 (R:Type):Type:=BA->BA->BA->Y3->BA->Y3->BA->Y3->BA->Y3->BA->Y3->BA->Int->Int->Int->Int->Int->BA->BA->BA->LA->T0 R
def t4 {R:Type} (f:Q0 R):J4 R:=
 fun x0 x1 x2 x3 x4 x5 x6 x7 x8 x9 bb be bk bs bx bP bS bV j m u z A M N O U V W X Y ad ae ap ar ax a1 a6 a7 a8=>(f j m u z A M N O U V W X Y ad ae ap ar ax a1 a6 a7 a8)
def e {R:Type} (c1:aE.F R) (c2:al.F R) (a0:BA) (j4:J4 R) (gb:Q0 R):Y1 R:=
 (c1 a0 0 0 (a0.size:Int) false (fun c' dg dr d' ea eb ed ei ek en ep et ey e0 e1 e2 e3 e4 e5 e' fl fo fr=>(c2 fo fr c' dg dr d' ea eb ed ei ek en ep et ey e0 e1 e2 e3 e4 e5 e' fl 0 false (fun fs fu f j m u z A M N O U V W X Y ad ae ap ar ax a1 a6 a7=>(j4 (⟨#[]⟩:BA) (⟨#[]⟩:BA) (⟨#[]⟩:BA) false (⟨#[]⟩:BA) false (⟨#[]⟩:BA) false (⟨#[]⟩:BA) false (⟨#[]⟩:BA) false (⟨#[]⟩:BA) 0 0 0 0 0 f j m u z A M N O U V W X Y ad ae ap ar ax a1 a6 a7)) (fun fz f' a8 bb be bk bs bx bP bS bV b0 b1 b2 b3 b4 b5 b' ca cl cp ct c0=>(j4 (⟨#[]⟩:BA) (⟨#[]⟩:BA) (⟨#[]⟩:BA) false (⟨#[]⟩:BA) false (⟨#[]⟩:BA) false (⟨#[]⟩:BA) false (⟨#[]⟩:BA) false (⟨#[]⟩:BA) 0 0 0 0 0 a8 bb be ([]:LA) bk bs bx bP bS bV b0 b1 b2 b3 b4 b5 b' ca cl cp ct c0)))))
def L4 {R:Type} (c1:aE.F R) (c2:al.F R) (j:Q0 R):Nat->J4 R
 | 0=>fun _ _ _ _ _ _ _ _ _ _ _ _ _ _ _ _ _ _ _ _ _ _ _ _ _ _ _ _ _ _ _ _ _ _ _ _ _ _ _ _=>none
 | f+1=>t4 j
end bh
def bh {R:Type}:bh.F R:=fun a0 f=>bh.e aE al a0 (bh.L4 aE al f ah) f
abbrev dE.F (R:Type):Type:=BA->Int->Int->(BA->Y1 R)->Y1 R
namespace dE
def e {R:Type} (a0:BA) (a1 a2:Int) (f:BA->Y1 R):Y1 R:=
 (bif decide (a1<0) then (f (⟨#[]⟩:BA)) else (bif decide (a2<0) then (f (⟨#[]⟩:BA)) else (bif decide (a1>a0.size) then (f (⟨#[]⟩:BA)) else (bo ((decide (0<=a1))&&((decide (a1<=(wrap .i64 (a1+(min2 a2 (wrap .i64 ((a0.size:Int)-a1)))))))&&(decide ((wrap .i64 (a1+(min2 a2 (wrap .i64 ((a0.size:Int)-a1)))))<=(a0.size:Int))))) (f (a0.extract (a1).toNat ((wrap .i64 (a1+(min2 a2 (wrap .i64 ((a0.size:Int)-a1)))))).toNat))))))
end dE
def dE {R:Type}:dE.F R:=fun a0 a1 a2 f=>dE.e a0 a1 a2 f
abbrev b8.F (R:Type):Type:=(Y3->Y1 R)->Y1 R
namespace b8
def e {R:Type} (c1:bh.F R) (c2:dE.F R) (j:Y3->Y1 R):Y1 R:=
 (c1 (⟨#[67,111,110,116,101,110,116,45,84,121,112,101,58,32,109,117,108,116,105,112,97,114,116,47,109,105,120,101,100,59,32,98,111,117,110,100,97,114,121,61,98,13,10,13,10,45,45,98,13,10,13,10,111,110,101,13,10,45,45,98,45,45,13,10]⟩:BA) (fun z m A M N O U V W X Y ad ae ap ar ax a1 a6 a7 a8 bb f=>(bif decide (m=(⟨#[109,117,108,116,105,112,97,114,116]⟩:BA)) then (bif ((f.length:Int) == 1) then (bo (decide (0<(f.length:Int))) (bif (decide (((bi f 0).fld 0).s=(⟨#[49]⟩:BA))) then (bo (decide (0<(f.length:Int))) (bif (decide (((bi f 0).fld 1).s=(⟨#[116,101,120,116]⟩:BA))) then (bo (decide (0<(f.length:Int))) (bif ((((bi f 0).fld 18).i == 52)&&((((bi f 0).fld 19).i == 55)&&true)) then (c2 (⟨#[104,101,108,108,111]⟩:BA) 1 3 (fun u=>(j (decide (u=(⟨#[101,108,108]⟩:BA)))))) else (j false))) else (j false))) else (j false))) else (j false)) else (j false))))
end b8
def b8 {R:Type}:b8.F R:=fun f=>b8.e bh dE f
abbrev bE.F (R:Type):Type:=BA->(LA->Y1 R)->Y1 R
namespace bE
abbrev J4 (R:Type):Type:=BA->Int->Int->LA->Y1 R
def t4 {R:Type} (z:J4 R) (u:LA->Y1 R):J4 R:=
 fun x0 j f m=>(bif (decide ((wrap .i64 (f+1))<(x0.size:Int))) then (bo (decide (0<=f)&&decide (f<x0.size)) (bif ((dP x0 f) == 13) then (bo ((decide (0<=(wrap .i64 (f+1))))&&(decide ((wrap .i64 (f+1))<(x0.size:Int)))) (bif ((dP x0 (wrap .i64 (f+1))) == 10) then (bo ((decide (0<=j))&&((decide (j<=(wrap .i64 (f+2))))&&(decide ((wrap .i64 (f+2))<=(x0.size:Int))))) (bo (decide ((m.length+1)*16<=140737488355328)) (z x0 (wrap .i64 (f+2)) (wrap .i64 ((wrap .i64 (f+1))+1)) (m++[AV.str (x0.extract (j).toNat ((wrap .i64 (f+2))).toNat)])))) else (z x0 j (wrap .i64 (f+1)) m))) else (z x0 j (wrap .i64 (f+1)) m))) else (bif decide (j<x0.size) then (bo ((decide (0<=j))&&(decide (j<=x0.size)&&decide ((x0.size:Int)<=(x0.size:Int)))) (bo (decide ((m.length+1)*16<=140737488355328)) (u (m++[AV.str (x0.extract (j).toNat ((x0.size:Int)).toNat)])))) else (u m)))
def e {R:Type} (a0:BA) (f:J4 R) (j:LA->Y1 R):Y1 R:=
 (f a0 0 0 ([]:LA))
def L4 {R:Type} (j:LA->Y1 R):Nat->J4 R
 | 0=>fun _ _ _ _=>none
 | f+1=>t4 (L4 j f) j
end bE
def bE {R:Type}:bE.F R:=fun a0 f=>bE.e a0 (bE.L4 f ah) f
abbrev cP.F (R:Type):Type:=BA->(BA->BA->Y1 R)->Y1 R
namespace cP
abbrev J4 (R:Type):Type:=BA->Int->Int->LA->Y1 R
def t4 {R:Type} (z:J4 R) (u:BA->BA->Y1 R):J4 R:=
 fun x0 m f j=>(bif decide (f<j.length) then (bo (decide (0<=f)&&decide (f<j.length)) (bo (decide (0<=f)&&decide (f<j.length)) (bif decide ((bi j f).s=(⟨#[13,10]⟩:BA)) then (bo ((decide (0<=(wrap .i64 (m+((bi j f).s.size:Int)))))&&(decide ((wrap .i64 (m+((bi j f).s.size:Int)))<=(x0.size:Int)))) (bo ((decide (0<=(wrap .i64 (m+((bi j f).s.size:Int)))))&&((decide ((wrap .i64 (m+((bi j f).s.size:Int)))<=(x0.size:Int)))&&(decide ((x0.size:Int)<=(x0.size:Int))))) (u (x0.extract ((0:Int)).toNat ((wrap .i64 (m+((bi j f).s.size:Int)))).toNat) (x0.extract ((wrap .i64 (m+((bi j f).s.size:Int)))).toNat ((x0.size:Int)).toNat)))) else (z x0 (wrap .i64 (m+((bi j f).s.size:Int))) (wrap .i64 (f+1)) j)))) else (u x0 (⟨#[]⟩:BA)))
def e {R:Type} (c1:bE.F R) (a0:BA) (j:J4 R) (m:BA->BA->Y1 R):Y1 R:=
 (c1 a0 (fun f=>(j a0 0 0 f)))
def L4 {R:Type} (c1:bE.F R) (j:BA->BA->Y1 R):Nat->J4 R
 | 0=>fun _ _ _ _=>none
 | f+1=>t4 (L4 c1 j f) j
end cP
def cP {R:Type}:cP.F R:=fun a0 f=>cP.e bE a0 (cP.L4 bE f ah) f
abbrev aS.F (R:Type):Type:=Int->(Y3->Y1 R)->Y1 R
namespace aS
def e {R:Type} (a0:Int) (f:Y3->Y1 R):Y1 R:=
 (bif (a0 == 32) then (f true) else (f (a0 == 9)))
end aS
def aS {R:Type}:aS.F R:=fun a0 f=>aS.e a0 f
abbrev b7.F (R:Type):Type:=BA->(Int->Int->Y1 R)->Y1 R
namespace b7
abbrev J5 (R:Type):Type:=BA->Int->Int->Y1 R
def t2 {R:Type} (m:BA->Int->Y1 R) (j:J5 R):BA->Int->Y1 R:=
 fun x0 f=>(bif decide (f<x0.size) then (bo (decide (0<=f)&&decide (f<x0.size)) (bif decide ((dP x0 f)>=(33:Int)) then (bo (decide (0<=f)&&decide (f<x0.size)) (bif decide ((dP x0 f)<=(126:Int)) then (bo (decide (0<=f)&&decide (f<x0.size)) (bif ((dP x0 f) != 58) then (m x0 (wrap .i64 (f+1))) else (j x0 f f))) else (j x0 f f))) else (j x0 f f))) else (j x0 f f))
def t5 {R:Type} (c1:aS.F R) (z:J5 R) (f:Int->Int->Y1 R):J5 R:=
 fun x0 j u=>(bif decide (j<x0.size) then (bo (decide (0<=j)&&decide (j<x0.size)) (c1 (dP x0 j) (fun m=>(bif m then (z x0 (wrap .i64 (j+1)) u) else (bif (u == 0) then (f (-1) 0) else (bif (j == (x0.size:Int)) then (f (-1) 0) else (bo (decide (0<=j)&&decide (j<x0.size)) (bif ((dP x0 j) != 58) then (f (-1) 0) else (f j u))))))))) else (bif (u == 0) then (f (-1) 0) else (bif (j == (x0.size:Int)) then (f (-1) 0) else (bo (decide (0<=j)&&decide (j<x0.size)) (bif ((dP x0 j) != 58) then (f (-1) 0) else (f j u))))))
def e {R:Type} (c1:aS.F R) (a0:BA) (f:BA->Int->Y1 R) (m:J5 R) (j:Int->Int->Y1 R):Y1 R:=
 (f a0 0)
def L5 {R:Type} (c1:aS.F R) (j:Int->Int->Y1 R):Nat->J5 R
 | 0=>fun _ _ _=>none
 | f+1=>t5 c1 (L5 c1 j f) j
def L2 {R:Type} (c1:aS.F R) (j:Int->Int->Y1 R):Nat->BA->Int->Y1 R
 | 0=>fun _ _=>none
 | f+1=>t2 (L2 c1 j f) (L5 c1 j f)
end b7
def b7 {R:Type}:b7.F R:=fun a0 f=>b7.e aS a0 (b7.L2 aS f ah) (b7.L5 aS f ah) f
abbrev bU.F (R:Type):Type:=BA->(BA->Y1 R)->Y1 R
namespace bU
def e {R:Type} (a0:BA) (f:BA->Y1 R):Y1 R:=
 (bif decide ((a0.size:Int)>=(2:Int)) then (bo ((decide (0<=(wrap .i64 ((a0.size:Int)-2))))&&(decide ((wrap .i64 ((a0.size:Int)-2))<(a0.size:Int)))) (bif ((dP a0 (wrap .i64 ((a0.size:Int)-2))) == 13) then (bo ((decide (0<=(wrap .i64 ((a0.size:Int)-1))))&&(decide ((wrap .i64 ((a0.size:Int)-1))<(a0.size:Int)))) (bif ((dP a0 (wrap .i64 ((a0.size:Int)-1))) == 10) then (bo ((decide (0<=(wrap .i64 ((a0.size:Int)-2))))&&(decide ((wrap .i64 ((a0.size:Int)-2))<=(a0.size:Int)))) (f (a0.extract ((0:Int)).toNat ((wrap .i64 ((a0.size:Int)-2))).toNat))) else (f a0))) else (f a0))) else (f a0))
end bU
def bU {R:Type}:bU.F R:=fun a0 f=>bU.e a0 f
abbrev bW.F (R:Type):Type:=BA->(LA->Y1 R)->Y1 R
namespace bW
abbrev J4 (R:Type):Type:=Int->LA->LA->Y1 R
abbrev J5 (R:Type):Type:=Int->LA->LA->Y1 R
abbrev u5 (R:Type):Type:=Int->BA->LA->LA->Y1 R
def t4 {R:Type} (c2:aS.F R) (c3:bU.F R) (M:J5 R) (z:u5 R) (A:LA->Y1 R):J4 R:=
 fun x0 f j=>(bif decide (x0<j.length) then (bo (decide (0<=x0)&&decide (x0<j.length)) (bif (!decide ((bi j x0).s=(⟨#[13,10]⟩:BA))) then (bo (decide (0<=x0)&&decide (x0<j.length)) (bo (decide (0<((bi j x0).s.size:Int))) (c2 (dP (bi j x0).s 0) (fun u=>(bif u then (bif (decide ((wrap .i64 ((f.length:Int)-1))>=(0:Int))) then (bo ((decide (0<=(wrap .i64 ((f.length:Int)-1))))&&(decide ((wrap .i64 ((f.length:Int)-1))<(f.length:Int)))) (bo (decide (((bi f (wrap .i64 ((f.length:Int)-1))).fld 2).s.size+(bi j x0).s.size<=9223372036854775807)) (bo ((decide (0<=(wrap .i64 ((f.length:Int)-1))))&&(decide ((wrap .i64 ((f.length:Int)-1))<(f.length:Int)))) (bo ((decide (0<=(wrap .i64 ((f.length:Int)-1))))&&(decide ((wrap .i64 ((f.length:Int)-1))<((eF f (wrap .i64 ((f.length:Int)-1)) (AV.agg [AV.str ((bi f (wrap .i64 ((f.length:Int)-1))).fld 0).s,AV.str ((bi f (wrap .i64 ((f.length:Int)-1))).fld 1).s,AV.str (((bi f (wrap .i64 ((f.length:Int)-1))).fld 2).s++(bi j x0).s)])).length:Int)))) (c3 (bi j x0).s (fun m=>(bo (decide (((bi (eF f (wrap .i64 ((f.length:Int)-1)) (AV.agg [AV.str ((bi f (wrap .i64 ((f.length:Int)-1))).fld 0).s,AV.str ((bi f (wrap .i64 ((f.length:Int)-1))).fld 1).s,AV.str (((bi f (wrap .i64 ((f.length:Int)-1))).fld 2).s++(bi j x0).s)])) (wrap .i64 ((f.length:Int)-1))).fld 1).s.size+m.size<=9223372036854775807)) (bo ((decide (0<=(wrap .i64 ((f.length:Int)-1))))&&(decide ((wrap .i64 ((f.length:Int)-1))<((eF f (wrap .i64 ((f.length:Int)-1)) (AV.agg [AV.str ((bi f (wrap .i64 ((f.length:Int)-1))).fld 0).s,AV.str ((bi f (wrap .i64 ((f.length:Int)-1))).fld 1).s,AV.str (((bi f (wrap .i64 ((f.length:Int)-1))).fld 2).s++(bi j x0).s)])).length:Int)))) (M x0 (eF (eF f (wrap .i64 ((f.length:Int)-1)) (AV.agg [AV.str ((bi f (wrap .i64 ((f.length:Int)-1))).fld 0).s,AV.str ((bi f (wrap .i64 ((f.length:Int)-1))).fld 1).s,AV.str (((bi f (wrap .i64 ((f.length:Int)-1))).fld 2).s++(bi j x0).s)])) (wrap .i64 ((f.length:Int)-1)) (AV.agg [AV.str ((bi (eF f (wrap .i64 ((f.length:Int)-1)) (AV.agg [AV.str ((bi f (wrap .i64 ((f.length:Int)-1))).fld 0).s,AV.str ((bi f (wrap .i64 ((f.length:Int)-1))).fld 1).s,AV.str (((bi f (wrap .i64 ((f.length:Int)-1))).fld 2).s++(bi j x0).s)])) (wrap .i64 ((f.length:Int)-1))).fld 0).s,AV.str (((bi (eF f (wrap .i64 ((f.length:Int)-1)) (AV.agg [AV.str ((bi f (wrap .i64 ((f.length:Int)-1))).fld 0).s,AV.str ((bi f (wrap .i64 ((f.length:Int)-1))).fld 1).s,AV.str (((bi f (wrap .i64 ((f.length:Int)-1))).fld 2).s++(bi j x0).s)])) (wrap .i64 ((f.length:Int)-1))).fld 1).s++m),AV.str ((bi (eF f (wrap .i64 ((f.length:Int)-1)) (AV.agg [AV.str ((bi f (wrap .i64 ((f.length:Int)-1))).fld 0).s,AV.str ((bi f (wrap .i64 ((f.length:Int)-1))).fld 1).s,AV.str (((bi f (wrap .i64 ((f.length:Int)-1))).fld 2).s++(bi j x0).s)])) (wrap .i64 ((f.length:Int)-1))).fld 2).s])) j))))))))) else (z x0 (bi j x0).s f j)) else (z x0 (bi j x0).s f j)))))) else (A f))) else (A f))
def t5 {R:Type} (f:J4 R):J5 R:=
 fun x0 j m=>(f (wrap .i64 (x0+1)) j m)
def t11 {R:Type} (c2:aS.F R) (c3:bU.F R) (c4:b7.F R) (M:J5 R):u5 R:=
 fun x0 m A N=>(c4 m (fun f j=>(bo (decide (0<(m.size:Int))) (c2 (dP m 0) (fun u=>(bif u then (bo (decide ((A.length+1)*48<=140737488355328)) (M x0 (A++[AV.agg [AV.str (⟨#[]⟩:BA),AV.str (⟨#[]⟩:BA),AV.str m]]) N)) else (bif decide (f<0) then (bo (decide ((A.length+1)*48<=140737488355328)) (M x0 (A++[AV.agg [AV.str (⟨#[]⟩:BA),AV.str (⟨#[]⟩:BA),AV.str m]]) N)) else (bo (decide (0<=j)&&decide (j<=m.size)) (bo ((decide (0<=(wrap .i64 (f+1))))&&((decide ((wrap .i64 (f+1))<=(m.size:Int)))&&(decide ((m.size:Int)<=(m.size:Int))))) (c3 (m.extract ((wrap .i64 (f+1))).toNat ((m.size:Int)).toNat) (fun z=>(bo (decide ((A.length+1)*48<=140737488355328)) (M x0 (A++[AV.agg [AV.str (m.extract ((0:Int)).toNat (j).toNat),AV.str z,AV.str m]]) N)))))))))))))
def e {R:Type} (c1:bE.F R) (c2:aS.F R) (c3:bU.F R) (c4:b7.F R) (a0:BA) (j:J4 R) (z:J5 R) (m:u5 R) (u:LA->Y1 R):Y1 R:=
 (c1 a0 (fun f=>(j 0 ([]:LA) f)))
def M4 {R:Type} (c1:bE.F R) (c2:aS.F R) (c3:bU.F R) (c4:b7.F R) (j:LA->Y1 R):Nat->(J4 R) × (J5 R) × (u5 R)
 | 0=>(fun _ _ _=>none,fun _ _ _=>none,fun _ _ _ _=>none)
 | f+1=>(t4 c2 c3 ((M4 c1 c2 c3 c4 j f).2.1) ((M4 c1 c2 c3 c4 j f).2.2) j,
  t5 ((M4 c1 c2 c3 c4 j f).1),
  t11 c2 c3 c4 ((M4 c1 c2 c3 c4 j f).2.1))
def L4 {R:Type} (c1:bE.F R) (c2:aS.F R) (c3:bU.F R) (c4:b7.F R) (j:LA->Y1 R) (f:Nat):J4 R:=(M4 c1 c2 c3 c4 j f).1
def L5 {R:Type} (c1:bE.F R) (c2:aS.F R) (c3:bU.F R) (c4:b7.F R) (j:LA->Y1 R) (f:Nat):J5 R:=(M4 c1 c2 c3 c4 j f).2.1
def tL {R:Type} (c1:bE.F R) (c2:aS.F R) (c3:bU.F R) (c4:b7.F R) (j:LA->Y1 R) (f:Nat):u5 R:=(M4 c1 c2 c3 c4 j f).2.2
end bW
def bW {R:Type}:bW.F R:=fun a0 f=>bW.e bE aS bU b7 a0 (bW.L4 bE aS bU b7 f ah) (bW.L5 bE aS bU b7 f ah) (bW.tL bE aS bU b7 f ah) f
abbrev de.F (R:Type):Type:=BA->(BA->Y1 R)->Y1 R
namespace de
def t1 {R:Type} (c1:aS.F R) (m:BA->Y1 R) (j:BA->Y1 R):BA->Y1 R:=
 fun x0=>(bif decide ((x0.size:Int)>(0:Int)) then (bo (decide (0<(x0.size:Int))) (c1 (dP x0 0) (fun f=>(bif f then (bo (decide ((1:Int)<=(x0.size:Int))&&decide ((x0.size:Int)<=(x0.size:Int))) (m (x0.extract ((1:Int)).toNat ((x0.size:Int)).toNat))) else (j x0))))) else (j x0))
def t3 {R:Type} (c1:aS.F R) (m:BA->Y1 R) (j:BA->Y1 R):BA->Y1 R:=
 fun x0=>(bif decide ((x0.size:Int)>(0:Int)) then (bo ((decide (0<=(wrap .i64 ((x0.size:Int)-1))))&&(decide ((wrap .i64 ((x0.size:Int)-1))<(x0.size:Int)))) (c1 (dP x0 (wrap .i64 ((x0.size:Int)-1))) (fun f=>(bif f then (bo ((decide (0<=(wrap .i64 ((x0.size:Int)-1))))&&(decide ((wrap .i64 ((x0.size:Int)-1))<=(x0.size:Int)))) (m (x0.extract ((0:Int)).toNat ((wrap .i64 ((x0.size:Int)-1))).toNat))) else (j x0))))) else (j x0))
def e {R:Type} (c1:aS.F R) (a0:BA) (f:BA->Y1 R) (m:BA->Y1 R) (j:BA->Y1 R):Y1 R:=
 (f a0)
def L3 {R:Type} (c1:aS.F R) (j:BA->Y1 R):Nat->BA->Y1 R
 | 0=>fun _=>none
 | f+1=>t3 c1 (L3 c1 j f) j
def L1 {R:Type} (c1:aS.F R) (j:BA->Y1 R):Nat->BA->Y1 R
 | 0=>fun _=>none
 | f+1=>t1 c1 (L1 c1 j f) (L3 c1 j f)
end de
def de {R:Type}:de.F R:=fun a0 f=>de.e aS a0 (de.L1 aS f ah) (de.L3 aS f ah) f
abbrev cr.F (R:Type):Type:=BA->(LA->Y1 R)->Y1 R
namespace cr
abbrev J4 (R:Type):Type:=Int->LA->LA->Y1 R
def t4 {R:Type} (c2:de.F R) (z:J4 R) (u:LA->Y1 R):J4 R:=
 fun x0 m f=>(bif decide (x0<f.length) then (bif decide ((m.length:Int)<(64:Int)) then (bo (decide (0<=x0)&&decide (x0<f.length)) (bif (!decide (((bi f x0).fld 0).s=(⟨#[]⟩:BA))) then (bo (decide (0<=x0)&&decide (x0<f.length)) (c2 ((bi f x0).fld 1).s (fun j=>(bo (decide ((m.length+1)*48<=140737488355328)) (z (wrap .i64 (x0+1)) (m++[AV.agg [AV.str ((bi f x0).fld 0).s,AV.str j,AV.str ((bi f x0).fld 2).s]]) f))))) else (z (wrap .i64 (x0+1)) m f))) else (u m)) else (u m))
def e {R:Type} (c1:bW.F R) (c2:de.F R) (a0:BA) (j:J4 R) (m:LA->Y1 R):Y1 R:=
 (c1 a0 (fun f=>(j 0 ([]:LA) f)))
def L4 {R:Type} (c1:bW.F R) (c2:de.F R) (j:LA->Y1 R):Nat->J4 R
 | 0=>fun _ _ _=>none
 | f+1=>t4 c2 (L4 c1 c2 j f) j
end cr
def cr {R:Type}:cr.F R:=fun a0 f=>cr.e bW de a0 (cr.L4 bW de f ah) f
abbrev dx.F (R:Type):Type:=BA->(BA->Y1 R)->Y1 R
namespace dx
abbrev J3 (R:Type):Type:=BA->Int->LA->Y1 R
def t3 {R:Type} (m:J3 R) (u:BA->Y1 R):J3 R:=
 fun x0 f j=>(bif decide (f<x0.size) then (bo (decide (0<=f)&&decide (f<x0.size)) (bif decide ((dP x0 f)>=(65:Int)) then (bif decide ((dP x0 f)<=(90:Int)) then (bo (decide ((j.length+1)*1<=140737488355328)) (m x0 (wrap .i64 (f+1)) (j++[AV.int (wrap .u8 ((dP x0 f)+32))]))) else (bo (decide ((j.length+1)*1<=140737488355328)) (m x0 (wrap .i64 (f+1)) (j++[AV.int (dP x0 f)])))) else (bo (decide ((j.length+1)*1<=140737488355328)) (m x0 (wrap .i64 (f+1)) (j++[AV.int (dP x0 f)]))))) else (u (fI j)))
def e {R:Type} (a0:BA) (f:J3 R) (j:BA->Y1 R):Y1 R:=
 (f a0 0 ([]:LA))
def L3 {R:Type} (j:BA->Y1 R):Nat->J3 R
 | 0=>fun _ _ _=>none
 | f+1=>t3 (L3 j f) j
end dx
def dx {R:Type}:dx.F R:=fun a0 f=>dx.e a0 (dx.L3 f ah) f
abbrev cw.F (R:Type):Type:=BA->BA->(Y3->Y1 R)->Y1 R
namespace cw
def e {R:Type} (c1:dx.F R) (a0 a1:BA) (m:Y3->Y1 R):Y1 R:=
 (c1 a0 (fun f=>(c1 a1 (fun j=>(m (decide (f=j)))))))
end cw
def cw {R:Type}:cw.F R:=fun a0 a1 f=>cw.e dx a0 a1 f
abbrev dA.F (R:Type):Type:=LA->BA->(Y3->BA->Y1 R)->Y1 R
namespace dA
abbrev J2 (R:Type):Type:=LA->BA->Int->Y3->BA->Y1 R
def t2 {R:Type} (c1:cw.F R) (z:J2 R) (m:Y3->BA->Y1 R):J2 R:=
 fun x0 u f A M=>(bif decide (f<x0.length) then (bo (decide (0<=f)&&decide (f<x0.length)) (c1 ((bi x0 f).fld 0).s u (fun j=>(bif j then (bo (decide (0<=f)&&decide (f<x0.length)) (m true ((bi x0 f).fld 1).s)) else (z x0 u (wrap .i64 (f+1)) A M))))) else (m false (⟨#[]⟩:BA)))
def e {R:Type} (c1:cw.F R) (a0:LA) (a1:BA) (f:J2 R) (j:Y3->BA->Y1 R):Y1 R:=
 (f a0 a1 0 false (⟨#[]⟩:BA))
def L2 {R:Type} (c1:cw.F R) (j:Y3->BA->Y1 R):Nat->J2 R
 | 0=>fun _ _ _ _ _=>none
 | f+1=>t2 c1 (L2 c1 j f) j
end dA
def dA {R:Type}:dA.F R:=fun a0 a1 f=>dA.e cw a0 a1 (dA.L2 cw f ah) f
abbrev aN.F (R:Type):Type:=BA->Int->(Int->Y1 R)->Y1 R
namespace aN
abbrev J7 (R:Type):Type:=BA->Int->Int->Y1 R
def t1 {R:Type} (m:BA->Int->Y1 R) (u:J7 R) (j:Int->Y1 R):BA->Int->Y1 R:=
 fun x0 f=>(bif decide (f<x0.size) then (bo (decide (0<=f)&&decide (f<x0.size)) (bif ((dP x0 f) == 32) then (m x0 (wrap .i64 (f+1))) else (bo (decide (0<=f)&&decide (f<x0.size)) (bif ((dP x0 f) == 9) then (m x0 (wrap .i64 (f+1))) else (bo (decide (0<=f)&&decide (f<x0.size)) (bif ((dP x0 f) != 40) then (j f) else (u x0 f 0))))))) else (j f))
def t7 {R:Type} (u:BA->Int->Y1 R) (m:J7 R):J7 R:=
 fun x0 f j=>(bif decide (f<x0.size) then (bo (decide (0<=f)&&decide (f<x0.size)) (bif ((dP x0 f) == 92) then (bif (decide ((wrap .i64 (f+1))<(x0.size:Int))) then (m x0 (wrap .i64 ((wrap .i64 (f+1))+1)) j) else (bif ((dP x0 f) == 40) then (bif ((dP x0 f) == 41) then (bif ((wrap .i64 ((wrap .i64 (j+1))-1)) == 0) then (u x0 (wrap .i64 (f+1))) else (m x0 (wrap .i64 (f+1)) (wrap .i64 ((wrap .i64 (j+1))-1)))) else (m x0 (wrap .i64 (f+1)) (wrap .i64 (j+1)))) else (bif ((dP x0 f) == 41) then (bif ((wrap .i64 (j-1)) == 0) then (u x0 (wrap .i64 (f+1))) else (m x0 (wrap .i64 (f+1)) (wrap .i64 (j-1)))) else (m x0 (wrap .i64 (f+1)) j)))) else (bif ((dP x0 f) == 40) then (bif ((dP x0 f) == 41) then (bif ((wrap .i64 ((wrap .i64 (j+1))-1)) == 0) then (u x0 (wrap .i64 (f+1))) else (m x0 (wrap .i64 (f+1)) (wrap .i64 ((wrap .i64 (j+1))-1)))) else (m x0 (wrap .i64 (f+1)) (wrap .i64 (j+1)))) else (bif ((dP x0 f) == 41) then (bif ((wrap .i64 (j-1)) == 0) then (u x0 (wrap .i64 (f+1))) else (m x0 (wrap .i64 (f+1)) (wrap .i64 (j-1)))) else (m x0 (wrap .i64 (f+1)) j))))) else (u x0 f))
def e {R:Type} (a0:BA) (a1:Int) (f:BA->Int->Y1 R) (m:J7 R) (j:Int->Y1 R):Y1 R:=
 (f a0 a1)
def M1 {R:Type} (j:Int->Y1 R):Nat->(BA->Int->Y1 R) × (J7 R)
 | 0=>(fun _ _=>none,fun _ _ _=>none)
 | f+1=>(t1 ((M1 j f).1) ((M1 j f).2) j,
  t7 ((M1 j f).1) ((M1 j f).2))
def L1 {R:Type} (j:Int->Y1 R) (f:Nat):BA->Int->Y1 R:=(M1 j f).1
def L7 {R:Type} (j:Int->Y1 R) (f:Nat):J7 R:=(M1 j f).2
end aN
def aN {R:Type}:aN.F R:=fun a0 a1 f=>aN.e a0 a1 (aN.L1 f ah) (aN.L7 f ah) f
abbrev bF.F (R:Type):Type:=Int->(Y3->Y1 R)->Y1 R
namespace bF
abbrev J5 (R:Type):Type:=Int->BA->Int->Y1 R
def t5 {R:Type} (u:J5 R) (f:Y3->Y1 R):J5 R:=
 fun x0 m j=>(bif decide (j<m.size) then (bo (decide (0<=j)&&decide (j<m.size)) (bif ((dP m j) == x0) then (f false) else (u x0 m (wrap .i64 (j+1))))) else (f true))
def e {R:Type} (a0:Int) (j:J5 R) (f:Y3->Y1 R):Y1 R:=
 (bif decide (a0<33) then (f false) else (bif decide (a0>126) then (f false) else (j a0 (⟨#[40,41,60,62,64,44,59,58,92,34,47,91,93,63,61]⟩:BA) 0)))
def L5 {R:Type} (j:Y3->Y1 R):Nat->J5 R
 | 0=>fun _ _ _=>none
 | f+1=>t5 (L5 j f) j
end bF
def bF {R:Type}:bF.F R:=fun a0 f=>bF.e a0 (bF.L5 f ah) f
abbrev aR.F (R:Type):Type:=BA->Int->(BA->Y1 R)->Y1 R
namespace aR
abbrev J2 (R:Type):Type:=BA->Int->Int->Y1 R
def t2 {R:Type} (c1:bF.F R) (z:J2 R) (u:BA->Y1 R):J2 R:=
 fun x0 j f=>(bif decide (f<x0.size) then (bo (decide (0<=f)&&decide (f<x0.size)) (c1 (dP x0 f) (fun m=>(bif m then (z x0 j (wrap .i64 (f+1))) else (bo ((decide (0<=j))&&(decide (j<=f)&&decide (f<=x0.size))) (u (x0.extract (j).toNat (f).toNat))))))) else (bo ((decide (0<=j))&&(decide (j<=f)&&decide (f<=x0.size))) (u (x0.extract (j).toNat (f).toNat))))
def e {R:Type} (c1:bF.F R) (a0:BA) (a1:Int) (f:J2 R) (j:BA->Y1 R):Y1 R:=
 (f a0 a1 a1)
def L2 {R:Type} (c1:bF.F R) (j:BA->Y1 R):Nat->J2 R
 | 0=>fun _ _ _=>none
 | f+1=>t2 c1 (L2 c1 j f) j
end aR
def aR {R:Type}:aR.F R:=fun a0 a1 f=>aR.e bF a0 a1 (aR.L2 bF f ah) f
abbrev bf.F (R:Type):Type:=BA->(BA->Y1 R)->Y1 R
namespace bf
abbrev J3 (R:Type):Type:=BA->Int->LA->Y1 R
def t3 {R:Type} (m:J3 R) (u:BA->Y1 R):J3 R:=
 fun x0 f j=>(bif decide (f<x0.size) then (bo (decide (0<=f)&&decide (f<x0.size)) (bif decide ((dP x0 f)>=(65:Int)) then (bif decide ((dP x0 f)<=(90:Int)) then (bo (decide ((j.length+1)*1<=140737488355328)) (m x0 (wrap .i64 (f+1)) (j++[AV.int (wrap .u8 ((dP x0 f)+32))]))) else (bo (decide ((j.length+1)*1<=140737488355328)) (m x0 (wrap .i64 (f+1)) (j++[AV.int (dP x0 f)])))) else (bo (decide ((j.length+1)*1<=140737488355328)) (m x0 (wrap .i64 (f+1)) (j++[AV.int (dP x0 f)]))))) else (u (fI j)))
def e {R:Type} (a0:BA) (f:J3 R) (j:BA->Y1 R):Y1 R:=
 (f a0 0 ([]:LA))
def L3 {R:Type} (j:BA->Y1 R):Nat->J3 R
 | 0=>fun _ _ _=>none
 | f+1=>t3 (L3 j f) j
end bf
def bf {R:Type}:bf.F R:=fun a0 f=>bf.e a0 (bf.L3 f ah) f
abbrev cU.Q0 (R:Type):Type:=BA->Int->Y3->Y1 R
abbrev cU.F (R:Type):Type:=BA->Int->cU.Q0 R->Y1 R
namespace cU
abbrev J8 (R:Type):Type:=BA->Int->Int->LA->Y1 R
def t8 {R:Type} (z:J8 R) (m:Q0 R):J8 R:=
 fun x0 u f j=>(bif decide (f<x0.size) then (bo (decide (0<=f)&&decide (f<x0.size)) (bif ((dP x0 f) == 34) then (m (fI j) (wrap .i64 (f+1)) true) else (bo (decide (0<=f)&&decide (f<x0.size)) (bif ((dP x0 f) == 92) then (bif (decide ((wrap .i64 (f+1))<(x0.size:Int))) then (bo ((decide (0<=(wrap .i64 (f+1))))&&(decide ((wrap .i64 (f+1))<(x0.size:Int)))) (bo (decide ((j.length+1)*1<=140737488355328)) (z x0 u (wrap .i64 ((wrap .i64 (f+1))+1)) (j++[AV.int (dP x0 (wrap .i64 (f+1)))])))) else (bo (decide (0<=f)&&decide (f<x0.size)) (bo (decide ((j.length+1)*1<=140737488355328)) (z x0 u (wrap .i64 (f+1)) (j++[AV.int (dP x0 f)]))))) else (bo (decide (0<=f)&&decide (f<x0.size)) (bo (decide ((j.length+1)*1<=140737488355328)) (z x0 u (wrap .i64 (f+1)) (j++[AV.int (dP x0 f)])))))))) else (m (⟨#[]⟩:BA) u false))
def e {R:Type} (c1:aR.F R) (a0:BA) (a1:Int) (m:J8 R) (j:Q0 R):Y1 R:=
 (c1 a0 a1 (fun f=>(bif (!decide (f=(⟨#[]⟩:BA))) then (j f (wrap .i64 (a1+(f.size:Int))) true) else (bif decide (a1>=a0.size) then (j (⟨#[]⟩:BA) a1 false) else (bo (decide (0<=a1)&&decide (a1<a0.size)) (bif ((dP a0 a1) != 34) then (j (⟨#[]⟩:BA) a1 false) else (m a0 a1 (wrap .i64 (a1+1)) ([]:LA))))))))
def L8 {R:Type} (c1:aR.F R) (j:Q0 R):Nat->J8 R
 | 0=>fun _ _ _ _=>none
 | f+1=>t8 (L8 c1 j f) j
end cU
def cU {R:Type}:cU.F R:=fun a0 a1 f=>cU.e aR a0 a1 (cU.L8 aR f ah) f
abbrev bn.F (R:Type):Type:=BA->Int->(LA->Y1 R)->Y1 R
namespace bn
abbrev J2 (R:Type):Type:=BA->Int->LA->Y1 R
abbrev y' (R:Type):Type:=BA->Int->BA->BA->Y3->Int->LA->Y1 R
def t2 {R:Type} (c1:aN.F R) (c2:aR.F R) (c3:bf.F R) (c4:cU.F R) (W:y' R) (m:LA->Y1 R):J2 R:=
 fun x0 X A=>(bif decide ((A.length:Int)<(12:Int)) then (c1 x0 X (fun f=>(bif decide (f>=x0.size) then (m A) else (bo (decide (0<=f)&&decide (f<x0.size)) (bif ((dP x0 f) != 59) then (m A) else (c1 x0 (wrap .i64 (f+1)) (fun z=>(c2 x0 z (fun M=>(c3 M (fun u=>(c1 x0 (wrap .i64 (z+(u.size:Int))) (fun j=>(bif decide (u=(⟨#[]⟩:BA)) then (m A) else (bif decide (j>=x0.size) then (m A) else (bo (decide (0<=j)&&decide (j<x0.size)) (bif ((dP x0 j) != 61) then (m A) else (c1 x0 (wrap .i64 (j+1)) (fun N=>(c4 x0 N (fun O U V=>(bif !V then (m A) else (W x0 U u O false 0 A))))))))))))))))))))))) else (m A))
def t17 {R:Type} (M:J2 R) (m:y' R):y' R:=
 fun x0 u z A N j f=>(bif decide (j<f.length) then (bif N then (m x0 u z A true (wrap .i64 (j+1)) f) else (bo (decide (0<=j)&&decide (j<f.length)) (m x0 u z A (decide (((bi f j).fld 0).s=z)) (wrap .i64 (j+1)) f))) else (bif !N then (bo (decide ((f.length+1)*32<=140737488355328)) (M x0 u (f++[AV.agg [AV.str z,AV.str A]]))) else (M x0 u f)))
def e {R:Type} (c1:aN.F R) (c2:aR.F R) (c3:bf.F R) (c4:cU.F R) (a0:BA) (a1:Int) (f:J2 R) (j:y' R) (m:LA->Y1 R):Y1 R:=
 (f a0 a1 ([]:LA))
def M2 {R:Type} (c1:aN.F R) (c2:aR.F R) (c3:bf.F R) (c4:cU.F R) (j:LA->Y1 R):Nat->(J2 R) × (y' R)
 | 0=>(fun _ _ _=>none,fun _ _ _ _ _ _ _=>none)
 | f+1=>(t2 c1 c2 c3 c4 ((M2 c1 c2 c3 c4 j f).2) j,
  t17 ((M2 c1 c2 c3 c4 j f).1) ((M2 c1 c2 c3 c4 j f).2))
def L2 {R:Type} (c1:aN.F R) (c2:aR.F R) (c3:bf.F R) (c4:cU.F R) (j:LA->Y1 R) (f:Nat):J2 R:=(M2 c1 c2 c3 c4 j f).1
def Aq {R:Type} (c1:aN.F R) (c2:aR.F R) (c3:bf.F R) (c4:cU.F R) (j:LA->Y1 R) (f:Nat):y' R:=(M2 c1 c2 c3 c4 j f).2
end bn
def bn {R:Type}:bn.F R:=fun a0 a1 f=>bn.e aN aR bf cU a0 a1 (bn.L2 aN aR bf cU f ah) (bn.Aq aN aR bf cU f ah) f
abbrev dp.Q0 (R:Type):Type:=BA->BA->LA->Y1 R
abbrev dp.F (R:Type):Type:=Y3->BA->Y3->dp.Q0 R->(BA->BA->Y1 R)->Y1 R
namespace dp
def e {R:Type} (c1:aN.F R) (c2:aR.F R) (c3:bf.F R) (c4:bn.F R) (a0:Y3) (a1:BA) (a2:Y3) (u:Q0 R) (z:BA->BA->Y1 R):Y1 R:=
 (c1 a1 0 (fun A=>(c2 a1 A (fun j=>(c1 a1 (wrap .i64 (A+(j.size:Int))) (fun f=>(bif a0 then (bif (!decide (j=(⟨#[]⟩:BA))) then (bif decide (f<a1.size) then (bo (decide (0<=f)&&decide (f<a1.size)) (bif ((dP a1 f) == 47) then (c1 a1 (wrap .i64 (f+1)) (fun M=>(c2 a1 M (fun m=>(bif (!decide (m=(⟨#[]⟩:BA))) then (c3 j (fun N=>(c3 m (fun O=>(c4 a1 (wrap .i64 (M+(m.size:Int))) (fun U=>(u N O U))))))) else (bif a2 then (z (⟨#[109,101,115,115,97,103,101]⟩:BA) (⟨#[114,102,99,56,50,50]⟩:BA)) else (u (⟨#[116,101,120,116]⟩:BA) (⟨#[112,108,97,105,110]⟩:BA) [AV.agg [AV.str (⟨#[99,104,97,114,115,101,116]⟩:BA),AV.str (⟨#[117,115,45,97,115,99,105,105]⟩:BA)]]))))))) else (bif a2 then (z (⟨#[109,101,115,115,97,103,101]⟩:BA) (⟨#[114,102,99,56,50,50]⟩:BA)) else (u (⟨#[116,101,120,116]⟩:BA) (⟨#[112,108,97,105,110]⟩:BA) [AV.agg [AV.str (⟨#[99,104,97,114,115,101,116]⟩:BA),AV.str (⟨#[117,115,45,97,115,99,105,105]⟩:BA)]])))) else (bif a2 then (z (⟨#[109,101,115,115,97,103,101]⟩:BA) (⟨#[114,102,99,56,50,50]⟩:BA)) else (u (⟨#[116,101,120,116]⟩:BA) (⟨#[112,108,97,105,110]⟩:BA) [AV.agg [AV.str (⟨#[99,104,97,114,115,101,116]⟩:BA),AV.str (⟨#[117,115,45,97,115,99,105,105]⟩:BA)]]))) else (bif a2 then (z (⟨#[109,101,115,115,97,103,101]⟩:BA) (⟨#[114,102,99,56,50,50]⟩:BA)) else (u (⟨#[116,101,120,116]⟩:BA) (⟨#[112,108,97,105,110]⟩:BA) [AV.agg [AV.str (⟨#[99,104,97,114,115,101,116]⟩:BA),AV.str (⟨#[117,115,45,97,115,99,105,105]⟩:BA)]]))) else (bif a2 then (z (⟨#[109,101,115,115,97,103,101]⟩:BA) (⟨#[114,102,99,56,50,50]⟩:BA)) else (u (⟨#[116,101,120,116]⟩:BA) (⟨#[112,108,97,105,110]⟩:BA) [AV.agg [AV.str (⟨#[99,104,97,114,115,101,116]⟩:BA),AV.str (⟨#[117,115,45,97,115,99,105,105]⟩:BA)]])))))))))
end dp
def dp {R:Type}:dp.F R:=fun a0 a1 a2 f j=>dp.e aN aR bf bn a0 a1 a2 f j
abbrev dy.F (R:Type):Type:=BA->(BA->Y1 R)->Y1 R
namespace dy
def t1 {R:Type} (f:BA->Y1 R) (j:BA->Y1 R):BA->Y1 R:=
 fun x0=>(bif decide ((x0.size:Int)>(0:Int)) then (bo (decide (0<(x0.size:Int))) (bif ((dP x0 0) == 32) then (bo (decide ((1:Int)<=(x0.size:Int))&&decide ((x0.size:Int)<=(x0.size:Int))) (f (x0.extract ((1:Int)).toNat ((x0.size:Int)).toNat))) else (bo (decide (0<(x0.size:Int))) (bif ((dP x0 0) == 9) then (bo (decide ((1:Int)<=(x0.size:Int))&&decide ((x0.size:Int)<=(x0.size:Int))) (f (x0.extract ((1:Int)).toNat ((x0.size:Int)).toNat))) else (j x0))))) else (j x0))
def t3 {R:Type} (j:BA->Y1 R) (f:BA->Y1 R):BA->Y1 R:=
 fun x0=>(bif decide ((x0.size:Int)>(0:Int)) then (bo ((decide (0<=(wrap .i64 ((x0.size:Int)-1))))&&(decide ((wrap .i64 ((x0.size:Int)-1))<(x0.size:Int)))) (bif ((dP x0 (wrap .i64 ((x0.size:Int)-1))) == 32) then (bo ((decide (0<=(wrap .i64 ((x0.size:Int)-1))))&&(decide ((wrap .i64 ((x0.size:Int)-1))<=(x0.size:Int)))) (j (x0.extract ((0:Int)).toNat ((wrap .i64 ((x0.size:Int)-1))).toNat))) else (bo ((decide (0<=(wrap .i64 ((x0.size:Int)-1))))&&(decide ((wrap .i64 ((x0.size:Int)-1))<(x0.size:Int)))) (bif ((dP x0 (wrap .i64 ((x0.size:Int)-1))) == 9) then (bo ((decide (0<=(wrap .i64 ((x0.size:Int)-1))))&&(decide ((wrap .i64 ((x0.size:Int)-1))<=(x0.size:Int)))) (j (x0.extract ((0:Int)).toNat ((wrap .i64 ((x0.size:Int)-1))).toNat))) else (f x0))))) else (f x0))
def e {R:Type} (a0:BA) (f:BA->Y1 R) (m:BA->Y1 R) (j:BA->Y1 R):Y1 R:=
 (f a0)
def L3 {R:Type} (j:BA->Y1 R):Nat->BA->Y1 R
 | 0=>fun _=>none
 | f+1=>t3 (L3 j f) j
def L1 {R:Type} (j:BA->Y1 R):Nat->BA->Y1 R
 | 0=>fun _=>none
 | f+1=>t1 (L1 j f) (L3 j f)
end dy
def dy {R:Type}:dy.F R:=fun a0 f=>dy.e a0 (dy.L1 f ah) (dy.L3 f ah) f
abbrev dw.F (R:Type):Type:=Y3->BA->(Y3->BA->Y1 R)->Y1 R
namespace dw
def e {R:Type} (c1:dy.F R) (a0:Y3) (a1:BA) (j:Y3->BA->Y1 R):Y1 R:=
 (bif !a0 then (j false (⟨#[]⟩:BA)) else (c1 a1 (fun f=>(j true f))))
end dw
def dw {R:Type}:dw.F R:=fun a0 a1 f=>dw.e dy a0 a1 f
abbrev cX.Q0 (R:Type):Type:=Y3->BA->Int->Y1 R
abbrev cX.F (R:Type):Type:=Y3->BA->cX.Q0 R->Y1 R
namespace cX
def e {R:Type} (c1:aN.F R) (c2:aR.F R) (c3:bf.F R) (a0:Y3) (a1:BA) (m:Q0 R):Y1 R:=
 (c1 a1 0 (fun j=>(c2 a1 j (fun f=>(bif !a0 then (m false (⟨#[]⟩:BA) 0) else (bif decide (f=(⟨#[]⟩:BA)) then (m false (⟨#[]⟩:BA) 0) else (c3 f (fun u=>(m true u (wrap .i64 (j+(f.size:Int))))))))))))
end cX
def cX {R:Type}:cX.F R:=fun a0 a1 f=>cX.e aN aR bf a0 a1 f
abbrev cF.F (R:Type):Type:=Y3->BA->(LA->Y1 R)->Y1 R
namespace cF
abbrev J3 (R:Type):Type:=Int->Y3->BA->LA->Y1 R
def t3 {R:Type} (c1:aN.F R) (c2:aR.F R) (c3:bf.F R) (O:J3 R) (u:LA->Y1 R):J3 R:=
 fun x0 N M A=>(bif N then (bif decide ((A.length:Int)<(12:Int)) then (c1 M x0 (fun z=>(c2 M z (fun j=>(bif decide (j=(⟨#[]⟩:BA)) then (u A) else (c3 j (fun m=>(bo (decide ((A.length+1)*16<=140737488355328)) (c1 M (wrap .i64 (z+(j.size:Int))) (fun f=>(bif decide (f>=M.size) then (u (A++[AV.str m])) else (bo (decide (0<=f)&&decide (f<M.size)) (bif ((dP M f) != 44) then (u (A++[AV.str m])) else (O (wrap .i64 (f+1)) N M (A++[AV.str m]))))))))))))))) else (u A)) else (u A))
def e {R:Type} (c1:aN.F R) (c2:aR.F R) (c3:bf.F R) (a0:Y3) (a1:BA) (f:J3 R) (j:LA->Y1 R):Y1 R:=
 (f 0 a0 a1 ([]:LA))
def L3 {R:Type} (c1:aN.F R) (c2:aR.F R) (c3:bf.F R) (j:LA->Y1 R):Nat->J3 R
 | 0=>fun _ _ _ _=>none
 | f+1=>t3 c1 c2 c3 (L3 c1 c2 c3 j f) j
end cF
def cF {R:Type}:cF.F R:=fun a0 a1 f=>cF.e aN aR bf a0 a1 (cF.L3 aN aR bf f ah) f
abbrev aZ.Q0 (R:Type):Type:=T3 R
abbrev aZ.F (R:Type):Type:=BA->Int->Int->BA->Y3->aZ.Q0 R->Y1 R
namespace aZ
abbrev J6 (R:Type):Type:=BA->BA->BA->Y3->BA->Y3->BA->Y3->BA->Y3->BA->Y3->BA->Int->Int->Int->Int->Int->LA->BA->BA->BA->Y3->BA->Y3->BA->Y3->BA->Y3->BA->Y3->BA->Int->Int->Int->Int->Int->LA->Y1 R
abbrev Hz (R:Type):Type:=BA->BA->BA->Y3->BA->Y3->BA->Y3->BA->Y3->BA->Y3->BA->Int->Int->Int->Int->Int->T3 R
def t6 {R:Type} (c3:dA.F R) (c5:dw.F R) (c6:cX.F R) (c7:bn.F R) (c8:cF.F R) (bS:Hz R):J6 R:=
 fun x0 x1 x2 x3 x4 x5 x6 x7 x8 x9 bV b0 b1 b2 b3 b4 b5 b' f ca cl cp eb ed ei ek en ep et ey e0 e1 ct c0 c' dg dr d'=>(c3 f (⟨#[67,111,110,116,101,110,116,45,73,100]⟩:BA) (fun X Y=>(c5 X Y (fun m u=>(c3 f (⟨#[67,111,110,116,101,110,116,45,68,101,115,99,114,105,112,116,105,111,110]⟩:BA) (fun ad ae=>(c5 ad ae (fun z A=>(c3 f (⟨#[67,111,110,116,101,110,116,45,76,111,99,97,116,105,111,110]⟩:BA) (fun ap ar=>(c5 ap ar (fun M N=>(c3 f (⟨#[67,111,110,116,101,110,116,45,84,114,97,110,115,102,101,114,45,69,110,99,111,100,105,110,103]⟩:BA) (fun ax a1=>(c6 ax a1 (fun O U ea=>(c3 f (⟨#[67,111,110,116,101,110,116,45,68,105,115,112,111,115,105,116,105,111,110]⟩:BA) (fun a6 V=>(c6 a6 V (fun j W a7=>(bif j then (c7 V a7 (fun a8=>(c3 f (⟨#[67,111,110,116,101,110,116,45,76,97,110,103,117,97,103,101]⟩:BA) (fun bb be=>(c8 bb be (fun bk=>(bS x0 x1 x2 x3 x4 x5 x6 x7 x8 x9 bV b0 b1 b2 b3 b4 b5 b' ca cl cp d' m u z A O U j W a8 bk M N ct c0 c' dg dr))))))) else (c3 f (⟨#[67,111,110,116,101,110,116,45,76,97,110,103,117,97,103,101]⟩:BA) (fun bs bx=>(c8 bs bx (fun bP=>(bS x0 x1 x2 x3 x4 x5 x6 x7 x8 x9 bV b0 b1 b2 b3 b4 b5 b' ca cl cp d' m u z A O U j W ([]:LA) bP M N ct c0 c' dg dr))))))))))))))))))))))))))
def t16 {R:Type} (f:Q0 R):Hz R:=
 fun x0 x1 x2 x3 x4 x5 x6 x7 x8 x9 a8 bb be bk bs bx bP bS j m u z A M N O U V W X Y ad ae ap ar ax a1 a6 a7=>(f j m u z A M N O U V W X Y ad ae ap ar ax a1 a6 a7)
def e {R:Type} (c1:cP.F R) (c2:cr.F R) (c3:dA.F R) (c4:dp.F R) (c5:dw.F R) (c6:cX.F R) (c7:bn.F R) (c8:cF.F R) (a0:BA) (a1 a2:Int) (a3:BA) (a4:Y3) (V:J6 R) (W:Hz R) (X:Q0 R):Y1 R:=
 (bo ((decide (0<=a1))&&(decide (a1<=a2)&&decide (a2<=a0.size))) (c1 (a0.extract (a1).toNat (a2).toNat) (fun f U=>(c2 f (fun j=>(c3 j (⟨#[67,111,110,116,101,110,116,45,84,121,112,101]⟩:BA) (fun m u=>(c4 m u a4 (fun z A M=>(V (⟨#[]⟩:BA) (⟨#[]⟩:BA) (⟨#[]⟩:BA) false (⟨#[]⟩:BA) false (⟨#[]⟩:BA) false (⟨#[]⟩:BA) false (⟨#[]⟩:BA) false (⟨#[]⟩:BA) 0 0 0 0 0 j a3 z A false (⟨#[]⟩:BA) false (⟨#[]⟩:BA) false (⟨#[]⟩:BA) false (⟨#[]⟩:BA) false (⟨#[]⟩:BA) a1 (wrap .i64 (a1+(f.size:Int))) (wrap .i64 (a1+(f.size:Int))) a2 0 M)) (fun N O=>(V (⟨#[]⟩:BA) (⟨#[]⟩:BA) (⟨#[]⟩:BA) false (⟨#[]⟩:BA) false (⟨#[]⟩:BA) false (⟨#[]⟩:BA) false (⟨#[]⟩:BA) false (⟨#[]⟩:BA) 0 0 0 0 0 j a3 N O false (⟨#[]⟩:BA) false (⟨#[]⟩:BA) false (⟨#[]⟩:BA) false (⟨#[]⟩:BA) false (⟨#[]⟩:BA) a1 (wrap .i64 (a1+(f.size:Int))) (wrap .i64 (a1+(f.size:Int))) a2 0 ([]:LA)))))))))))
def FG {R:Type} (c1:cP.F R) (c2:cr.F R) (c3:dA.F R) (c4:dp.F R) (c5:dw.F R) (c6:cX.F R) (c7:bn.F R) (c8:cF.F R) (j:Q0 R):Nat->Hz R
 | 0=>fun _ _ _ _ _ _ _ _ _ _ _ _ _ _ _ _ _ _ _ _ _ _ _ _ _ _ _ _ _ _ _ _ _ _ _ _ _ _ _=>none
 | f+1=>t16 j
def L6 {R:Type} (c1:cP.F R) (c2:cr.F R) (c3:dA.F R) (c4:dp.F R) (c5:dw.F R) (c6:cX.F R) (c7:bn.F R) (c8:cF.F R) (j:Q0 R):Nat->J6 R
 | 0=>fun _ _ _ _ _ _ _ _ _ _ _ _ _ _ _ _ _ _ _ _ _ _ _ _ _ _ _ _ _ _ _ _ _ _ _ _ _ _=>none
 | f+1=>t6 c3 c5 c6 c7 c8 (FG c1 c2 c3 c4 c5 c6 c7 c8 j f)
end aZ
def aZ {R:Type}:aZ.F R:=fun a0 a1 a2 a3 a4 f=>aZ.e cP cr dA dp dw cX bn cF a0 a1 a2 a3 a4 (aZ.L6 cP cr dA dp dw cX bn cF f ah) (aZ.FG cP cr dA dp dw cX bn cF f ah) f
abbrev bJ.F (R:Type):Type:=BA->(Int->Y1 R)->Y1 R
namespace bJ
abbrev J3 (R:Type):Type:=BA->Int->Int->Y1 R
def t3 {R:Type} (m:J3 R) (u:Int->Y1 R):J3 R:=
 fun x0 j f=>(bif (decide ((wrap .i64 (f+1))<(x0.size:Int))) then (bo (decide (0<=f)&&decide (f<x0.size)) (bif ((dP x0 f) == 13) then (bo ((decide (0<=(wrap .i64 (f+1))))&&(decide ((wrap .i64 (f+1))<(x0.size:Int)))) (bif ((dP x0 (wrap .i64 (f+1))) == 10) then (m x0 (wrap .i64 (j+1)) (wrap .i64 (f+1))) else (m x0 j (wrap .i64 (f+1))))) else (m x0 j (wrap .i64 (f+1))))) else (u j))
def e {R:Type} (a0:BA) (f:J3 R) (j:Int->Y1 R):Y1 R:=
 (f a0 0 0)
def L3 {R:Type} (j:Int->Y1 R):Nat->J3 R
 | 0=>fun _ _ _=>none
 | f+1=>t3 (L3 j f) j
end bJ
def bJ {R:Type}:bJ.F R:=fun a0 f=>bJ.e a0 (bJ.L3 f ah) f
abbrev cY.F (R:Type):Type:=LA->BA->(BA->Y1 R)->Y1 R
namespace cY
abbrev J2 (R:Type):Type:=LA->BA->Int->Y1 R
def t2 {R:Type} (u:J2 R) (j:BA->Y1 R):J2 R:=
 fun x0 m f=>(bif decide (f<x0.length) then (bo (decide (0<=f)&&decide (f<x0.length)) (bif (decide (((bi x0 f).fld 0).s=m)) then (bo (decide (0<=f)&&decide (f<x0.length)) (j ((bi x0 f).fld 1).s)) else (u x0 m (wrap .i64 (f+1))))) else (j (⟨#[]⟩:BA)))
def e {R:Type} (a0:LA) (a1:BA) (f:J2 R) (j:BA->Y1 R):Y1 R:=
 (f a0 a1 0)
def L2 {R:Type} (j:BA->Y1 R):Nat->J2 R
 | 0=>fun _ _ _=>none
 | f+1=>t2 (L2 j f) j
end cY
def cY {R:Type}:cY.F R:=fun a0 a1 f=>cY.e a0 a1 (cY.L2 f ah) f
abbrev cz.F (R:Type):Type:=BA->(Y3->Y1 R)->Y1 R
namespace cz
def t2 {R:Type} (m:BA->Int->Y1 R) (j:Y3->Y1 R):BA->Int->Y1 R:=
 fun x0 f=>(bif (decide ((wrap .i64 (f+1))<(x0.size:Int))) then (bo (decide (0<=f)&&decide (f<x0.size)) (bif ((dP x0 f) == 13) then (bo ((decide (0<=(wrap .i64 (f+1))))&&(decide ((wrap .i64 (f+1))<(x0.size:Int)))) (bif ((dP x0 (wrap .i64 (f+1))) == 10) then (j true) else (m x0 (wrap .i64 (f+1))))) else (m x0 (wrap .i64 (f+1))))) else (j false))
def e {R:Type} (a0:BA) (f:BA->Int->Y1 R) (j:Y3->Y1 R):Y1 R:=
 (f a0 0)
def L2 {R:Type} (j:Y3->Y1 R):Nat->BA->Int->Y1 R
 | 0=>fun _ _=>none
 | f+1=>t2 (L2 j f) j
end cz
def cz {R:Type}:cz.F R:=fun a0 f=>cz.e a0 (cz.L2 f ah) f
abbrev bQ.F (R:Type):Type:=BA->Int->BA->(Int->Int->Y1 R)->Y1 R
namespace bQ
abbrev J9 (R:Type):Type:=BA->Int->Int->Y1 R
def t9 {R:Type} (u:J9 R) (j:Int->Int->Y1 R):J9 R:=
 fun x0 f m=>(bif decide (f<x0.size) then (bo (decide (0<=f)&&decide (f<x0.size)) (bif ((dP x0 f) == 32) then (u x0 (wrap .i64 (f+1)) m) else (bo (decide (0<=f)&&decide (f<x0.size)) (bif ((dP x0 f) == 9) then (u x0 (wrap .i64 (f+1)) m) else (bif (f == (x0.size:Int)) then (j m f) else (bif (decide ((wrap .i64 (f+2))<=(x0.size:Int))) then (bo (decide (0<=f)&&decide (f<x0.size)) (bif ((dP x0 f) == 13) then (bo ((decide (0<=(wrap .i64 (f+1))))&&(decide ((wrap .i64 (f+1))<(x0.size:Int)))) (bif ((dP x0 (wrap .i64 (f+1))) == 10) then (j m (wrap .i64 (f+2))) else (j 0 0))) else (j 0 0))) else (j 0 0))))))) else (bif (f == (x0.size:Int)) then (j m f) else (bif (decide ((wrap .i64 (f+2))<=(x0.size:Int))) then (bo (decide (0<=f)&&decide (f<x0.size)) (bif ((dP x0 f) == 13) then (bo ((decide (0<=(wrap .i64 (f+1))))&&(decide ((wrap .i64 (f+1))<(x0.size:Int)))) (bif ((dP x0 (wrap .i64 (f+1))) == 10) then (j m (wrap .i64 (f+2))) else (j 0 0))) else (j 0 0))) else (j 0 0))))
def e {R:Type} (a0:BA) (a1:Int) (a2:BA) (j:J9 R) (f:Int->Int->Y1 R):Y1 R:=
 (bif (decide ((wrap .i64 ((wrap .i64 (a1+2))+(a2.size:Int)))>(a0.size:Int))) then (f 0 0) else (bo ((decide (0<=a1))&&((decide (a1<=(wrap .i64 (a1+2))))&&(decide ((wrap .i64 (a1+2))<=(a0.size:Int))))) (bif (!decide ((a0.extract (a1).toNat ((wrap .i64 (a1+2))).toNat)=(⟨#[45,45]⟩:BA))) then (f 0 0) else (bo ((decide (0<=(wrap .i64 (a1+2))))&&((decide ((wrap .i64 (a1+2))<=(wrap .i64 ((wrap .i64 (a1+2))+(a2.size:Int)))))&&(decide ((wrap .i64 ((wrap .i64 (a1+2))+(a2.size:Int)))<=(a0.size:Int))))) (bif (!decide ((a0.extract ((wrap .i64 (a1+2))).toNat ((wrap .i64 ((wrap .i64 (a1+2))+(a2.size:Int)))).toNat)=a2)) then (f 0 0) else (bif (decide ((wrap .i64 ((wrap .i64 ((wrap .i64 (a1+2))+(a2.size:Int)))+2))<=(a0.size:Int))) then (bo ((decide (0<=(wrap .i64 ((wrap .i64 (a1+2))+(a2.size:Int)))))&&((decide ((wrap .i64 ((wrap .i64 (a1+2))+(a2.size:Int)))<=(wrap .i64 ((wrap .i64 ((wrap .i64 (a1+2))+(a2.size:Int)))+2))))&&(decide ((wrap .i64 ((wrap .i64 ((wrap .i64 (a1+2))+(a2.size:Int)))+2))<=(a0.size:Int))))) (bif (decide ((a0.extract ((wrap .i64 ((wrap .i64 (a1+2))+(a2.size:Int)))).toNat ((wrap .i64 ((wrap .i64 ((wrap .i64 (a1+2))+(a2.size:Int)))+2))).toNat)=(⟨#[45,45]⟩:BA))) then (j a0 (wrap .i64 ((wrap .i64 ((wrap .i64 (a1+2))+(a2.size:Int)))+2)) 2) else (j a0 (wrap .i64 ((wrap .i64 (a1+2))+(a2.size:Int))) 1))) else (j a0 (wrap .i64 ((wrap .i64 (a1+2))+(a2.size:Int))) 1)))))))
def L9 {R:Type} (j:Int->Int->Y1 R):Nat->J9 R
 | 0=>fun _ _ _=>none
 | f+1=>t9 (L9 j f) j
end bQ
def bQ {R:Type}:bQ.F R:=fun a0 a1 a2 f=>bQ.e a0 a1 a2 (bQ.L9 f ah) f
abbrev cC.F (R:Type):Type:=BA->Int->(Int->Y1 R)->Y1 R
namespace cC
def t2 {R:Type} (m:BA->Int->Y1 R) (j:Int->Y1 R):BA->Int->Y1 R:=
 fun x0 f=>(bif (decide ((wrap .i64 (f+1))<(x0.size:Int))) then (bo (decide (0<=f)&&decide (f<x0.size)) (bif ((dP x0 f) == 13) then (bo ((decide (0<=(wrap .i64 (f+1))))&&(decide ((wrap .i64 (f+1))<(x0.size:Int)))) (bif ((dP x0 (wrap .i64 (f+1))) == 10) then (j (wrap .i64 (f+2))) else (m x0 (wrap .i64 (f+1))))) else (m x0 (wrap .i64 (f+1))))) else (j (x0.size:Int)))
def e {R:Type} (a0:BA) (a1:Int) (f:BA->Int->Y1 R) (j:Int->Y1 R):Y1 R:=
 (f a0 a1)
def L2 {R:Type} (j:Int->Y1 R):Nat->BA->Int->Y1 R
 | 0=>fun _ _=>none
 | f+1=>t2 (L2 j f) j
end cC
def cC {R:Type}:cC.F R:=fun a0 a1 f=>cC.e a0 a1 (cC.L2 f ah) f
abbrev cT.F (R:Type):Type:=BA->BA->(LA->Y1 R)->Y1 R
namespace cT
abbrev J4 (R:Type):Type:=BA->BA->Int->Int->LA->Y1 R
def t4 {R:Type} (c1:bQ.F R) (c2:cC.F R) (O:J4 R) (m:LA->Y1 R):J4 R:=
 fun x0 N z M u=>(bif decide (M<x0.size) then (c1 x0 M N (fun j f=>(bif decide (j>0) then (bif decide (z>=0) then (bo (decide ((u.length+1)*16<=140737488355328)) (bif (j == 2) then (m (u++[AV.agg [AV.int z,AV.int (max2 z (wrap .i64 (M-2)))]])) else (O x0 N f f (u++[AV.agg [AV.int z,AV.int (max2 z (wrap .i64 (M-2)))]])))) else (bif (j == 2) then (m u) else (O x0 N f f u))) else (c2 x0 M (fun A=>(O x0 N z A u)))))) else (bif decide (z>=0) then (bo (decide ((u.length+1)*16<=140737488355328)) (m (u++[AV.agg [AV.int z,AV.int (x0.size:Int)]]))) else (m u)))
def e {R:Type} (c1:bQ.F R) (c2:cC.F R) (a0 a1:BA) (f:J4 R) (j:LA->Y1 R):Y1 R:=
 (f a0 a1 (-1) 0 ([]:LA))
def L4 {R:Type} (c1:bQ.F R) (c2:cC.F R) (j:LA->Y1 R):Nat->J4 R
 | 0=>fun _ _ _ _ _=>none
 | f+1=>t4 c1 c2 (L4 c1 c2 j f) j
end cT
def cT {R:Type}:cT.F R:=fun a0 a1 f=>cT.e bQ cC a0 a1 (cT.L4 bQ cC f ah) f
abbrev aU.F (R:Type):Type:=BA->BA->BA->BA->LA->Y3->BA->Y3->BA->Y3->BA->Y3->BA->LA->LA->Y3->BA->Int->Int->Int->Int->Int->Y1 R->(LA->Y1 R)->Y1 R
namespace aU
abbrev u5 (R:Type):Type:=Int->BA->BA->BA->LA->T0 R
def t11 {R:Type} (m:u5 R) (u:LA->Y1 R):u5 R:=
 fun x0 x1 x2 x3 x4 x5 x6 x7 x8 x9 z A M N O U V W X j Y ad f=>(bif decide (x0<f.length) then (bo (decide (0<=x0)&&decide (x0<f.length)) (bo (decide (0<=x0)&&decide (x0<f.length)) (bo ((decide (0<=x0))&&(decide (x0<((eF f x0 (AV.agg [AV.int (wrap .i64 (((bi f x0).fld 0).i+j)),AV.int ((bi f x0).fld 1).i])).length:Int)))) (bo ((decide (0<=x0))&&(decide (x0<((eF f x0 (AV.agg [AV.int (wrap .i64 (((bi f x0).fld 0).i+j)),AV.int ((bi f x0).fld 1).i])).length:Int)))) (m (wrap .i64 (x0+1)) x1 x2 x3 x4 x5 x6 x7 x8 x9 z A M N O U V W X j Y ad (eF (eF f x0 (AV.agg [AV.int (wrap .i64 (((bi f x0).fld 0).i+j)),AV.int ((bi f x0).fld 1).i])) x0 (AV.agg [AV.int ((bi (eF f x0 (AV.agg [AV.int (wrap .i64 (((bi f x0).fld 0).i+j)),AV.int ((bi f x0).fld 1).i])) x0).fld 0).i,AV.int (wrap .i64 (((bi (eF f x0 (AV.agg [AV.int (wrap .i64 (((bi f x0).fld 0).i+j)),AV.int ((bi f x0).fld 1).i])) x0).fld 1).i+j))]))))))) else (u f))
def e {R:Type} (c1:cY.F R) (c2:cz.F R) (c3:cT.F R) (a0 a1 a2 a3:BA) (a4:LA) (a5:Y3) (a6:BA) (a7:Y3) (a8:BA) (a9:Y3) (z:BA) (V:Y3) (a12:BA) (W X:LA) (Y:Y3) (ad:BA) (ae ap f a20 a21:Int) (ar:u5 R) (j:Y1 R) (A:LA->Y1 R):Y1 R:=
 (bif decide (a2=(⟨#[109,101,115,115,97,103,101]⟩:BA)) then (bif decide (a3=(⟨#[114,102,99,56,50,50]⟩:BA)) then (bif a9 then (bif (!decide (z=(⟨#[55,98,105,116]⟩:BA))) then (bif (!decide (z=(⟨#[56,98,105,116]⟩:BA))) then (bif (!decide (z=(⟨#[98,105,110,97,114,121]⟩:BA))) then j else (A [AV.agg [AV.int f,AV.int a20]])) else (A [AV.agg [AV.int f,AV.int a20]])) else (A [AV.agg [AV.int f,AV.int a20]])) else (A [AV.agg [AV.int f,AV.int a20]])) else (c1 a4 (⟨#[98,111,117,110,100,97,114,121]⟩:BA) (fun m=>(bif (!decide (a2=(⟨#[109,117,108,116,105,112,97,114,116]⟩:BA))) then j else (bif decide ((m.size:Int)<(1:Int)) then j else (bif decide ((m.size:Int)>(70:Int)) then j else (c2 m (fun M=>(bif M then j else (bo ((decide (0<=f))&&(decide (f<=a20)&&decide (a20<=a0.size))) (c3 (a0.extract (f).toNat (a20).toNat) m (fun N=>(ar 0 a1 a2 a3 a4 a5 a6 a7 a8 a9 z V a12 W X Y ad ae ap f a20 a21 N))))))))))))) else (c1 a4 (⟨#[98,111,117,110,100,97,114,121]⟩:BA) (fun u=>(bif (!decide (a2=(⟨#[109,117,108,116,105,112,97,114,116]⟩:BA))) then j else (bif decide ((u.size:Int)<(1:Int)) then j else (bif decide ((u.size:Int)>(70:Int)) then j else (c2 u (fun O=>(bif O then j else (bo ((decide (0<=f))&&(decide (f<=a20)&&decide (a20<=a0.size))) (c3 (a0.extract (f).toNat (a20).toNat) u (fun U=>(ar 0 a1 a2 a3 a4 a5 a6 a7 a8 a9 z V a12 W X Y ad ae ap f a20 a21 U)))))))))))))
def tL {R:Type} (c1:cY.F R) (c2:cz.F R) (c3:cT.F R) (m:Y1 R) (j:LA->Y1 R):Nat->u5 R
 | 0=>fun _ _ _ _ _ _ _ _ _ _ _ _ _ _ _ _ _ _ _ _ _ _ _=>none
 | f+1=>t11 (tL c1 c2 c3 m j f) j
end aU
def aU {R:Type}:aU.F R:=fun a0 a1 a2 a3 a4 a5 W X Y a9 m u a12 z A M N O U V a20 a21 f j=>aU.e cY cz cT a0 a1 a2 a3 a4 a5 W X Y a9 m u a12 z A M N O U V a20 a21 (aU.tL cY cz cT f j ah) f j
abbrev bp.F (R:Type):Type:=Int->(BA->Y1 R)->Y1 R
namespace bp
def e {R:Type} (c1:bp.F R) (a0:Int) (m:BA->Y1 R):Y1 R:=
 (bif decide (a0<10) then (m (fI [AV.int (wrap .u8 (wrap .i64 (48+a0)))])) else (c1 (wrap .i64 (Int.tdiv a0 10)) (fun f=>(c1 (Int.tmod a0 10) (fun j=>(bo (decide (f.size+j.size<=9223372036854775807)) (m (f++j))))))))
def B {R:Type} (c1:bp.F R):F R:=fun a0 f=>e c1 a0 f
def R {R:Type}:Nat->F R
 | 0=>fun _ _=>none
 | n+1=>B (bp.R n)
end bp
def bp {R:Type}:bp.F R:=bp.R ah
abbrev bt.F (R:Type):Type:=BA->Int->(BA->Y1 R)->Y1 R
namespace bt
def e {R:Type} (c1:bp.F R) (a0:BA) (a1:Int) (m:BA->Y1 R):Y1 R:=
 (bif decide (a0=(⟨#[]⟩:BA)) then (c1 a1 (fun j=>(m j))) else (bo (decide (a0.size+(⟨#[46]⟩:BA).size<=9223372036854775807)) (c1 a1 (fun f=>(bo (decide ((a0++(⟨#[46]⟩:BA)).size+f.size<=9223372036854775807)) (m ((a0++(⟨#[46]⟩:BA))++f)))))))
end bt
def bt {R:Type}:bt.F R:=fun a0 a1 f=>bt.e bp a0 a1 f
abbrev aw.Q0 (R:Type):Type:=T7 R
abbrev aw.F (R:Type):Type:=BA->BA->BA->BA->LA->Y3->BA->Y3->BA->Y3->BA->Y3->BA->LA->LA->Y3->BA->Int->Int->Int->Int->Int->Int->Y3->Int->aw.Q0 R->Y1 R
namespace aw
abbrev J2 (R:Type):Type:=T9 R
abbrev J4 (R:Type):Type:=T9 R
abbrev J5 (R:Type):Type:=T5 R
abbrev J7 (R:Type):Type:=BA->Int->Y3->Int->Y3->Y0 R
abbrev u5 (R:Type):Type:=T5 R
abbrev tK (R:Type):Type:=BA->Int->Int->BA->Y0 R
abbrev Ao (R:Type):Type:=T5 R
abbrev Hn (R:Type):Type:=BA->Int->Int->Int->T4 R
abbrev HA (R:Type):Type:=T5 R
def t2 {R:Type} (c1:bJ.F R) (j4:J4 R):J2 R:=
 fun x0 x1 x2 x3 x4 x5 x6 x7 x8 x9 u z A M N O U V W X Y ad ae f j b3 ap ar ax a1 a6 a7 a8 bb be bk bs bx bP bS bV b0 b1 b2=>(bif decide (x6=(⟨#[116,101,120,116]⟩:BA)) then (bo ((decide (0<=f))&&(decide (f<=j)&&decide (j<=x0.size))) (c1 (x0.extract (f).toNat (j).toNat) (fun m=>(j4 x0 x1 x2 x3 x4 x5 x6 x7 x8 x9 u z A M N O U V W X Y ad ae f j m ap ar ax a1 a6 a7 a8 bb be bk bs bx bP bS bV b0 b1 b2)))) else (j4 x0 x1 x2 x3 x4 x5 x6 x7 x8 x9 u z A M N O U V W X Y ad ae f j b3 ap ar ax a1 a6 a7 a8 bb be bk bs bx bP bS bV b0 b1 b2))
def t4 {R:Type} (c2:aU.F R) (j5:J5 R) (j7:J7 R):J4 R:=
 fun x0 x1 x2 x3 x4 x5 x6 x7 x8 x9 f j m u z A M N O U V W X Y ad ae ap ar ax a1 a6 a7 a8 bb be bk bs bx bP bS bV b0 b1 b2=>(bif (!decide (x6=(⟨#[109,117,108,116,105,112,97,114,116]⟩:BA))) then (bif !x4 then (j5 x3 x5 x6 x7 x8 x9 f j m u z A M N O U V W X Y ad ae ([]:LA) ap ar ax a1 a6 a7 a8 bb be bk bs bx bP bS bV b0 b1 b2) else (c2 x0 x5 x6 x7 x8 x9 f j m u z A M N O U V W X Y ad ae (j7 x0 x1 x2 x3 x4 x5 x6 x7 x8 x9 f j m u z A M N O U V W X Y ad ae ap ar ax a1 a6 a7 a8 bb be bk bs bx bP bS bV b0 b1 b2 ([]:LA)) (fun b3=>(j7 x0 x1 x2 x3 x4 x5 x6 x7 x8 x9 f j m u z A M N O U V W X Y ad ae ap ar ax a1 a6 a7 a8 bb be bk bs bx bP bS bV b0 b1 b2 b3)))) else (c2 x0 x5 x6 x7 x8 x9 f j m u z A M N O U V W X Y ad ae (j7 x0 x1 x2 x3 x4 x5 x6 x7 x8 x9 f j m u z A M N O U V W X Y ad ae ap ar ax a1 a6 a7 a8 bb be bk bs bx bP bS bV b0 b1 b2 ([]:LA)) (fun b4=>(j7 x0 x1 x2 x3 x4 x5 x6 x7 x8 x9 f j m u z A M N O U V W X Y ad ae ap ar ax a1 a6 a7 a8 bb be bk bs bx bP bS bV b0 b1 b2 b4))))
def t5 {R:Type} (f:Q0 R):J5 R:=
 fun x0 x1 x2 x3 x4 x5 x6 x7 x8 x9 j m u z A M N O U V W X Y ad ae ap ar ax a1 a6 a7 a8 bb be bk bs bx bP bS bV b0=>(f x1 x2 x3 x4 x5 x6 x7 x8 x9 j m u z A M N O U V W X Y x0)
def t7 {R:Type} (c1:bJ.F R) (c3:bt.F R) (b5:u5 R) (ca:tK R) (cl:Hn R):J7 R:=
 fun x0 x1 x2 x3 x4 x5 x6 x7 x8 x9 u z A M N O U V W X Y ad ae f j b4 ap ar ax a1 a6 a7 a8 bb be bk bs bx bP bS bV b0 b1 b2 m=>(bif ((m.length:Int) == 0) then (b5 x3 x5 (⟨#[97,112,112,108,105,99,97,116,105,111,110]⟩:BA) (⟨#[111,99,116,101,116,45,115,116,114,101,97,109]⟩:BA) ([]:LA) x9 u z A M N O U V W X Y ad ae f j b4 ([]:LA) ap ar ax a1 a6 a7 a8 bb be bk bs bx bP bS bV b0 b1 b2) else (bif decide (x1>=5) then (b5 x3 x5 (⟨#[97,112,112,108,105,99,97,116,105,111,110]⟩:BA) (⟨#[111,99,116,101,116,45,115,116,114,101,97,109]⟩:BA) ([]:LA) x9 u z A M N O U V W X Y ad ae f j b4 ([]:LA) ap ar ax a1 a6 a7 a8 bb be bk bs bx bP bS bV b0 b1 b2) else (bif (decide ((wrap .i64 (x3+(m.length:Int)))>(16:Int))) then (b5 x3 x5 (⟨#[97,112,112,108,105,99,97,116,105,111,110]⟩:BA) (⟨#[111,99,116,101,116,45,115,116,114,101,97,109]⟩:BA) ([]:LA) x9 u z A M N O U V W X Y ad ae f j b4 ([]:LA) ap ar ax a1 a6 a7 a8 bb be bk bs bx bP bS bV b0 b1 b2) else (bif x4 then (bo ((decide (0<=f))&&(decide (f<=j)&&decide (j<=x0.size))) (c1 (x0.extract (f).toNat (j).toNat) (fun b3=>(bif x2 then (c3 x5 1 (fun b'=>(ca x0 x1 (wrap .i64 (x3+(m.length:Int))) b' x5 x6 x7 x8 x9 u z A M N O U V W X Y ad ae f j b3 ap ar ax a1 a6 a7 a8 bb be bk bs bx bP bS bV b0 b1 b2 m))) else (ca x0 x1 (wrap .i64 (x3+(m.length:Int))) x5 x5 x6 x7 x8 x9 u z A M N O U V W X Y ad ae f j b3 ap ar ax a1 a6 a7 a8 bb be bk bs bx bP bS bV b0 b1 b2 m))))) else (cl x0 x1 (wrap .i64 (x3+(m.length:Int))) 0 x5 x6 x7 x8 x9 u z A M N O U V W X Y ad ae f j b4 ([]:LA) ap ar ax a1 a6 a7 a8 bb be bk bs bx bP bS bV b0 b1 b2 m)))))
def t11 {R:Type} (f:Q0 R):u5 R:=
 fun x0 x1 x2 x3 x4 x5 x6 x7 x8 x9 j m u z A M N O U V W X Y ad ae ap ar ax a1 a6 a7 a8 bb be bk bs bx bP bS bV b0=>(f x1 x2 x3 x4 x5 x6 x7 x8 x9 j m u z A M N O U V W X Y x0)
def t18 {R:Type} (c4:aZ.F R) (c5:aw.F R) (dr:Ao R):tK R:=
 fun x0 x1 x2 x3 x4 x5 x6 x7 x8 x9 d' ea eb ed ei ek en ep et ey e0 e1 e2 e3 e4 e5 e' fl fo fr fs fu fz f' gb gr g' ha hb hc hd hf hg f=>(bo (decide (0<(f.length:Int))) (c4 x0 ((bi f 0).fld 0).i ((bi f 0).fld 1).i x3 false (fun j m u z A M N O U V W X Y ad ae ap ar ax a1 a6 a7=>(c5 x0 j m u z A M N O U V W X Y ad ae ap ar ax a1 a6 a7 (wrap .i64 (x1+1)) true x2 (fun a8 bb be bk bs bx bP bS bV b0 b1 b2 b3 b4 b5 b' ca cl cp ct c0 c' dg=>(dr dg x4 x5 x6 x7 x8 x9 d' ea eb ed ei ek en ep et ey e0 e1 e2 e3 e4 [AV.agg [AV.str a8,AV.str bb,AV.str be,AV.sl bk,AV.bool bs,AV.str bx,AV.bool bP,AV.str bS,AV.bool bV,AV.str b0,AV.bool b1,AV.str b2,AV.sl b3,AV.sl b4,AV.bool b5,AV.str b',AV.int ca,AV.int cl,AV.int cp,AV.int ct,AV.int c0,AV.sl c']] e5 e' fl fo fr fs fu fz f' gb gr g' ha hb hc hd hf hg))))))
def t20 {R:Type} (f:Q0 R):Ao R:=
 fun x0 x1 x2 x3 x4 x5 x6 x7 x8 x9 j m u z A M N O U V W X Y ad ae ap ar ax a1 a6 a7 a8 bb be bk bs bx bP bS bV b0=>(f x1 x2 x3 x4 x5 x6 x7 x8 x9 j m u z A M N O U V W X Y x0)
def t22 {R:Type} (c3:bt.F R) (c4:aZ.F R) (c5:aw.F R) (hj:Hn R) (hk:HA R):Hn R:=
 fun x0 x1 x2 j x4 x5 x6 x7 x8 x9 eb ed ei ek en ep et ey e0 e1 e2 e3 e4 e5 e' m fl fo fr fs fu fz f' gb gr g' ha hb hc hd hf hg hh hi f=>(bif decide (j<f.length) then (bo (decide (0<=j)&&decide (j<f.length)) (c3 x4 (wrap .i64 (j+1)) (fun u=>(c4 x0 ((bi f j).fld 0).i ((bi f j).fld 1).i u (decide (x6=(⟨#[100,105,103,101,115,116]⟩:BA))) (fun z A M N O U V W X Y ad ae ap ar ax a1 a6 a7 a8 bb be=>(c5 x0 z A M N O U V W X Y ad ae ap ar ax a1 a6 a7 a8 bb be (wrap .i64 (x1+1)) false x2 (fun bk bs bx bP bS bV b0 b1 b2 b3 b4 b5 b' ca cl cp ct c0 c' dg dr d' ea=>(bo (decide ((m.length+1)*304<=140737488355328)) (hj x0 x1 ea (wrap .i64 (j+1)) x4 x5 x6 x7 x8 x9 eb ed ei ek en ep et ey e0 e1 e2 e3 e4 e5 e' (m++[AV.agg [AV.str bk,AV.str bs,AV.str bx,AV.sl bP,AV.bool bS,AV.str bV,AV.bool b0,AV.str b1,AV.bool b2,AV.str b3,AV.bool b4,AV.str b5,AV.sl b',AV.sl ca,AV.bool cl,AV.str cp,AV.int ct,AV.int c0,AV.int c',AV.int dg,AV.int dr,AV.sl d']]) fl fo fr fs fu fz f' gb gr g' ha hb hc hd hf hg hh hi f))))))))) else (hk x2 x4 x5 x6 x7 x8 x9 eb ed ei ek en ep et ey e0 e1 e2 e3 e4 e5 e' m fl fo fr fs fu fz f' gb gr g' ha hb hc hd hf hg hh hi))
def t27 {R:Type} (f:Q0 R):HA R:=
 fun x0 x1 x2 x3 x4 x5 x6 x7 x8 x9 j m u z A M N O U V W X Y ad ae ap ar ax a1 a6 a7 a8 bb be bk bs bx bP bS bV b0=>(f x1 x2 x3 x4 x5 x6 x7 x8 x9 j m u z A M N O U V W X Y x0)
def e {R:Type} (c1:bJ.F R) (c2:aU.F R) (c3:bt.F R) (c4:aZ.F R) (c5:aw.F R) (a0 a1 a2 a3:BA) (a4:LA) (a5:Y3) (W:BA) (X:Y3) (Y:BA) (a9:Y3) (f:BA) (j:Y3) (a12:BA) (m u:LA) (z:Y3) (A:BA) (M N O a20 a21 U:Int) (V:Y3) (a24:Int) (j2:J2 R) (j4:J4 R) (j5:J5 R) (j7:J7 R) (ad:u5 R) (ae:tK R) (ap:Ao R) (ar:Hn R) (ax:HA R) (bb:Q0 R):Y1 R:=
 (bif decide (a2=(⟨#[109,101,115,115,97,103,101]⟩:BA)) then (j2 a0 U V a24 (decide (a3=(⟨#[114,102,99,56,50,50]⟩:BA))) a1 a2 a3 a4 a5 W X Y a9 f j a12 m u z A M N O a20 a21 (⟨#[]⟩:BA) (⟨#[]⟩:BA) (⟨#[]⟩:BA) false (⟨#[]⟩:BA) false (⟨#[]⟩:BA) false (⟨#[]⟩:BA) false (⟨#[]⟩:BA) false (⟨#[]⟩:BA) 0 0 0 0 0) else (j2 a0 U V a24 false a1 a2 a3 a4 a5 W X Y a9 f j a12 m u z A M N O a20 a21 (⟨#[]⟩:BA) (⟨#[]⟩:BA) (⟨#[]⟩:BA) false (⟨#[]⟩:BA) false (⟨#[]⟩:BA) false (⟨#[]⟩:BA) false (⟨#[]⟩:BA) false (⟨#[]⟩:BA) 0 0 0 0 0))
def L5 {R:Type} (c1:bJ.F R) (c2:aU.F R) (c3:bt.F R) (c4:aZ.F R) (c5:aw.F R) (j:Q0 R):Nat->J5 R
 | 0=>fun _ _ _ _ _ _ _ _ _ _ _ _ _ _ _ _ _ _ _ _ _ _ _ _ _ _ _ _ _ _ _ _ _ _ _ _ _ _ _ _ _=>none
 | f+1=>t5 j
def tL {R:Type} (c1:bJ.F R) (c2:aU.F R) (c3:bt.F R) (c4:aZ.F R) (c5:aw.F R) (j:Q0 R):Nat->u5 R
 | 0=>fun _ _ _ _ _ _ _ _ _ _ _ _ _ _ _ _ _ _ _ _ _ _ _ _ _ _ _ _ _ _ _ _ _ _ _ _ _ _ _ _ _=>none
 | f+1=>t11 j
def BJ {R:Type} (c1:bJ.F R) (c2:aU.F R) (c3:bt.F R) (c4:aZ.F R) (c5:aw.F R) (j:Q0 R):Nat->Ao R
 | 0=>fun _ _ _ _ _ _ _ _ _ _ _ _ _ _ _ _ _ _ _ _ _ _ _ _ _ _ _ _ _ _ _ _ _ _ _ _ _ _ _ _ _=>none
 | f+1=>t20 j
def rj {R:Type} (c1:bJ.F R) (c2:aU.F R) (c3:bt.F R) (c4:aZ.F R) (c5:aw.F R) (j:Q0 R):Nat->tK R
 | 0=>fun _ _ _ _ _ _ _ _ _ _ _ _ _ _ _ _ _ _ _ _ _ _ _ _ _ _ _ _ _ _ _ _ _ _ _ _ _ _ _ _ _ _ _ _=>none
 | f+1=>t18 c4 c5 (BJ c1 c2 c3 c4 c5 j f)
def Ik {R:Type} (c1:bJ.F R) (c2:aU.F R) (c3:bt.F R) (c4:aZ.F R) (c5:aw.F R) (j:Q0 R):Nat->HA R
 | 0=>fun _ _ _ _ _ _ _ _ _ _ _ _ _ _ _ _ _ _ _ _ _ _ _ _ _ _ _ _ _ _ _ _ _ _ _ _ _ _ _ _ _=>none
 | f+1=>t27 j
def FH {R:Type} (c1:bJ.F R) (c2:aU.F R) (c3:bt.F R) (c4:aZ.F R) (c5:aw.F R) (j:Q0 R):Nat->Hn R
 | 0=>fun _ _ _ _ _ _ _ _ _ _ _ _ _ _ _ _ _ _ _ _ _ _ _ _ _ _ _ _ _ _ _ _ _ _ _ _ _ _ _ _ _ _ _ _ _=>none
 | f+1=>t22 c3 c4 c5 (FH c1 c2 c3 c4 c5 j f) (Ik c1 c2 c3 c4 c5 j f)
def L7 {R:Type} (c1:bJ.F R) (c2:aU.F R) (c3:bt.F R) (c4:aZ.F R) (c5:aw.F R) (j:Q0 R):Nat->J7 R
 | 0=>fun _ _ _ _ _ _ _ _ _ _ _ _ _ _ _ _ _ _ _ _ _ _ _ _ _ _ _ _ _ _ _ _ _ _ _ _ _ _ _ _ _ _ _ _ _=>none
 | f+1=>t7 c1 c3 (tL c1 c2 c3 c4 c5 j f) (rj c1 c2 c3 c4 c5 j f) (FH c1 c2 c3 c4 c5 j f)
def L4 {R:Type} (c1:bJ.F R) (c2:aU.F R) (c3:bt.F R) (c4:aZ.F R) (c5:aw.F R) (j:Q0 R):Nat->J4 R
 | 0=>fun _ _ _ _ _ _ _ _ _ _ _ _ _ _ _ _ _ _ _ _ _ _ _ _ _ _ _ _ _ _ _ _ _ _ _ _ _ _ _ _ _ _ _ _=>none
 | f+1=>t4 c2 (L5 c1 c2 c3 c4 c5 j f) (L7 c1 c2 c3 c4 c5 j f)
def L2 {R:Type} (c1:bJ.F R) (c2:aU.F R) (c3:bt.F R) (c4:aZ.F R) (c5:aw.F R) (j:Q0 R):Nat->J2 R
 | 0=>fun _ _ _ _ _ _ _ _ _ _ _ _ _ _ _ _ _ _ _ _ _ _ _ _ _ _ _ _ _ _ _ _ _ _ _ _ _ _ _ _ _ _ _ _=>none
 | f+1=>t2 c1 (L4 c1 c2 c3 c4 c5 j f)
def B {R:Type} (c1:bJ.F R) (c2:aU.F R) (c3:bt.F R) (c4:aZ.F R) (c5:aw.F R):F R:=fun a0 a1 a2 a3 a4 a5 X Y a8 a9 j m a12 u z A M N O U a20 a21 V W a24 f=>e c1 c2 c3 c4 c5 a0 a1 a2 a3 a4 a5 X Y a8 a9 j m a12 u z A M N O U a20 a21 V W a24 (L2 c1 c2 c3 c4 c5 f ah) (L4 c1 c2 c3 c4 c5 f ah) (L5 c1 c2 c3 c4 c5 f ah) (L7 c1 c2 c3 c4 c5 f ah) (tL c1 c2 c3 c4 c5 f ah) (rj c1 c2 c3 c4 c5 f ah) (BJ c1 c2 c3 c4 c5 f ah) (FH c1 c2 c3 c4 c5 f ah) (Ik c1 c2 c3 c4 c5 f ah) f
def R {R:Type}:Nat->F R
 | 0=>fun _ _ _ _ _ _ _ _ _ _ _ _ _ _ _ _ _ _ _ _ _ _ _ _ _ _=>none
 | n+1=>B bJ aU bt aZ (aw.R n)
end aw
def aw {R:Type}:aw.F R:=aw.R ah
abbrev bO.Q0 (R:Type):Type:=BA->BA->BA->LA->T0 R
abbrev bO.F (R:Type):Type:=BA->bO.Q0 R->Y1 R
namespace bO
def e {R:Type} (c1:aZ.F R) (c2:aw.F R) (a0:BA) (c':Q0 R):Y1 R:=
 (c1 a0 0 (a0.size:Int) (⟨#[]⟩:BA) false (fun f j m u z A M N O U V W X Y ad ae ap ar ax a1 a6=>(c2 a0 f j m u z A M N O U V W X Y ad ae ap ar ax a1 a6 0 true 0 (fun a7 a8 bb be bk bs bx bP bS bV b0 b1 b2 b3 b4 b5 b' ca cl cp ct c0 dg=>(c' a7 a8 bb be bk bs bx bP bS bV b0 b1 b2 b3 b4 b5 b' ca cl cp ct c0)))))
end bO
def bO {R:Type}:bO.F R:=fun a0 f=>bO.e aZ aw a0 f
abbrev aM.F (R:Type):Type:=BA->BA->BA->LA->Y3->BA->Y3->BA->Y3->BA->Y3->BA->LA->LA->Y3->BA->Int->Int->Int->Int->Int->LA->(LA->Y1 R)->Y1 R
namespace aM
abbrev J5 (R:Type):Type:=Int->BA->BA->BA->LA->Y3->BA->Y3->BA->Y3->BA->Y3->BA->LA->LA->Y3->BA->Int->Int->Int->Int->Int->LA->LA->Y1 R
def t5 {R:Type} (c1:aM.F R) (j5:J5 R) (u:LA->Y1 R):J5 R:=
 fun x0 x1 x2 x3 x4 x5 x6 x7 x8 x9 z A M N O U V W X Y ad ae f m=>(bif decide (x0<f.length) then (bo (decide (0<=x0)&&decide (x0<f.length)) (c1 ((bi f x0).fld 0).s ((bi f x0).fld 1).s ((bi f x0).fld 2).s ((bi f x0).fld 3).l ((bi f x0).fld 4).b ((bi f x0).fld 5).s ((bi f x0).fld 6).b ((bi f x0).fld 7).s ((bi f x0).fld 8).b ((bi f x0).fld 9).s ((bi f x0).fld 10).b ((bi f x0).fld 11).s ((bi f x0).fld 12).l ((bi f x0).fld 13).l ((bi f x0).fld 14).b ((bi f x0).fld 15).s ((bi f x0).fld 16).i ((bi f x0).fld 17).i ((bi f x0).fld 18).i ((bi f x0).fld 19).i ((bi f x0).fld 20).i ((bi f x0).fld 21).l (fun j=>(bo (decide ((m.length+j.length)*16<=140737488355328)) (j5 (wrap .i64 (x0+1)) x1 x2 x3 x4 x5 x6 x7 x8 x9 z A M N O U V W X Y ad ae f (m++j)))))) else (u m))
def e {R:Type} (c1:aM.F R) (a0 a1 a2:BA) (a3:LA) (a4:Y3) (a5:BA) (U:Y3) (V:BA) (W:Y3) (a9:BA) (f:Y3) (j:BA) (a12 m:LA) (u:Y3) (z:BA) (A M N O a20:Int) (a21:LA) (X:J5 R) (Y:LA->Y1 R):Y1 R:=
 (bo (decide (a0.size+(⟨#[46,49]⟩:BA).size<=9223372036854775807)) (bif decide (a0=(⟨#[]⟩:BA)) then (X 0 a0 a1 a2 a3 a4 a5 U V W a9 f j a12 m u z A M N O a20 a21 [AV.str (⟨#[49]⟩:BA),AV.str (⟨#[49,46,49]⟩:BA),AV.str (⟨#[50]⟩:BA)]) else (X 0 a0 a1 a2 a3 a4 a5 U V W a9 f j a12 m u z A M N O a20 a21 [AV.str a0,AV.str (a0++(⟨#[46,49]⟩:BA))])))
def L5 {R:Type} (c1:aM.F R) (j:LA->Y1 R):Nat->J5 R
 | 0=>fun _ _ _ _ _ _ _ _ _ _ _ _ _ _ _ _ _ _ _ _ _ _ _ _=>none
 | f+1=>t5 c1 (L5 c1 j f) j
def B {R:Type} (c1:aM.F R):F R:=fun a0 a1 a2 a3 a4 a5 V W X a9 j m a12 u z A M N O U a20 a21 f=>e c1 a0 a1 a2 a3 a4 a5 V W X a9 j m a12 u z A M N O U a20 a21 (L5 c1 f ah) f
def R {R:Type}:Nat->F R
 | 0=>fun _ _ _ _ _ _ _ _ _ _ _ _ _ _ _ _ _ _ _ _ _ _ _=>none
 | n+1=>B (aM.R n)
end aM
def aM {R:Type}:aM.F R:=aM.R ah
abbrev cm.F (R:Type):Type:=BA->(Int->Y1 R)->Y1 R
namespace cm
abbrev J3 (R:Type):Type:=BA->Int->Int->Int->Y1 R
def t3 {R:Type} (z:J3 R) (j:Int->Y1 R):J3 R:=
 fun x0 m u f=>(bif decide (f<u) then (bo (decide (0<=f)&&decide (f<x0.size)) (bif decide ((dP x0 f)<(48:Int)) then (j 0) else (bo (decide (0<=f)&&decide (f<x0.size)) (bif decide ((dP x0 f)>(57:Int)) then (j 0) else (bif (f == 0) then (bo (decide (0<=f)&&decide (f<x0.size)) (bif ((dP x0 f) == 48) then (j 0) else (bif decide (m>4294967295) then (j 0) else (bo (decide (0<=f)&&decide (f<x0.size)) (z x0 (wrap .i64 ((wrap .i64 (m*10))+(wrap .i64 (wrap .u8 ((dP x0 f)-48))))) u (wrap .i64 (f+1))))))) else (bif decide (m>4294967295) then (j 0) else (bo (decide (0<=f)&&decide (f<x0.size)) (z x0 (wrap .i64 ((wrap .i64 (m*10))+(wrap .i64 (wrap .u8 ((dP x0 f)-48))))) u (wrap .i64 (f+1)))))))))) else (j m))
def e {R:Type} (a0:BA) (f:J3 R) (j:Int->Y1 R):Y1 R:=
 (f a0 0 (a0.size:Int) 0)
def L3 {R:Type} (j:Int->Y1 R):Nat->J3 R
 | 0=>fun _ _ _ _=>none
 | f+1=>t3 (L3 j f) j
end cm
def cm {R:Type}:cm.F R:=fun a0 f=>cm.e a0 (cm.L3 f ah) f
abbrev bK.Q0 (R:Type):Type:=T1 R
abbrev bK.Q1 (R:Type):Type:=T2 R
abbrev bK.F (R:Type):Type:=BA->BA->BA->LA->Y3->BA->Y3->BA->Y3->BA->Y3->BA->LA->LA->Y3->BA->Int->Int->Int->Int->Int->LA->Y3->Int->bK.Q0 R->bK.Q1 R->Y1 R
namespace bK
abbrev J3 (R:Type):Type:=Y3->T5 R
def t3 {R:Type} (ap:Q0 R) (m:Q1 R):J3 R:=
 fun x0 j x2 x3 x4 x5 x6 x7 x8 x9 u z A M N O U V W X Y ad ae f ar ax a1 a6 a7 a8 bb be bk bs bx bP bS bV b0 b1 b2 b3=>(bif decide (x3=(⟨#[109,117,108,116,105,112,97,114,116]⟩:BA)) then (bif decide ((f.length:Int)>(0:Int)) then (bif decide (j<1) then (ap (⟨#[]⟩:BA) (⟨#[]⟩:BA) (⟨#[]⟩:BA) false (⟨#[]⟩:BA) false (⟨#[]⟩:BA) false (⟨#[]⟩:BA) false (⟨#[]⟩:BA) false (⟨#[]⟩:BA) 0 0 0 0 0 false) else (bif decide (j>f.length) then (ap (⟨#[]⟩:BA) (⟨#[]⟩:BA) (⟨#[]⟩:BA) false (⟨#[]⟩:BA) false (⟨#[]⟩:BA) false (⟨#[]⟩:BA) false (⟨#[]⟩:BA) false (⟨#[]⟩:BA) 0 0 0 0 0 false) else (bo ((decide (0<=(wrap .i64 (j-1))))&&(decide ((wrap .i64 (j-1))<(f.length:Int)))) (m ((bi f (wrap .i64 (j-1))).fld 0).s ((bi f (wrap .i64 (j-1))).fld 1).s ((bi f (wrap .i64 (j-1))).fld 2).s ((bi f (wrap .i64 (j-1))).fld 3).l ((bi f (wrap .i64 (j-1))).fld 4).b ((bi f (wrap .i64 (j-1))).fld 5).s ((bi f (wrap .i64 (j-1))).fld 6).b ((bi f (wrap .i64 (j-1))).fld 7).s ((bi f (wrap .i64 (j-1))).fld 8).b ((bi f (wrap .i64 (j-1))).fld 9).s ((bi f (wrap .i64 (j-1))).fld 10).b ((bi f (wrap .i64 (j-1))).fld 11).s ((bi f (wrap .i64 (j-1))).fld 12).l ((bi f (wrap .i64 (j-1))).fld 13).l ((bi f (wrap .i64 (j-1))).fld 14).b ((bi f (wrap .i64 (j-1))).fld 15).s ((bi f (wrap .i64 (j-1))).fld 16).i ((bi f (wrap .i64 (j-1))).fld 17).i ((bi f (wrap .i64 (j-1))).fld 18).i ((bi f (wrap .i64 (j-1))).fld 19).i ((bi f (wrap .i64 (j-1))).fld 20).i ((bi f (wrap .i64 (j-1))).fld 21).l true)))) else (bif x0 then (m x2 x3 x4 x5 x6 x7 x8 x9 u z A M N O U V W X Y ad ae f (j == 1)) else (m x2 x3 x4 x5 x6 x7 x8 x9 u z A M N O U V W X Y ad ae f false))) else (bif x0 then (m x2 x3 x4 x5 x6 x7 x8 x9 u z A M N O U V W X Y ad ae f (j == 1)) else (m x2 x3 x4 x5 x6 x7 x8 x9 u z A M N O U V W X Y ad ae f false)))
def e {R:Type} (c1:an.F R) (c2:bK.F R) (a0 a1 a2:BA) (a3:LA) (a4:Y3) (a5:BA) (a6:Y3) (a7:BA) (a8:Y3) (a9:BA) (gr:Y3) (g':BA) (a12 ha:LA) (hb:Y3) (hc:BA) (hd hf hg hh a20:Int) (a21:LA) (bs:Y3) (bx:Int) (j3:J3 R) (hi:Q0 R) (hj:Q1 R):Y1 R:=
 (bif !bs then (c1 a0 a1 a2 a3 a4 a5 a6 a7 a8 a9 gr g' a12 ha hb hc hd hf hg hh a20 a21 (fun bP j m u z A M N O U V W X Y ad ae ap ar ax bb be bk f=>(bif bP then (bif decide ((f.length:Int)>(0:Int)) then (bo (decide (0<(f.length:Int))) (c2 ((bi f 0).fld 0).s ((bi f 0).fld 1).s ((bi f 0).fld 2).s ((bi f 0).fld 3).l ((bi f 0).fld 4).b ((bi f 0).fld 5).s ((bi f 0).fld 6).b ((bi f 0).fld 7).s ((bi f 0).fld 8).b ((bi f 0).fld 9).s ((bi f 0).fld 10).b ((bi f 0).fld 11).s ((bi f 0).fld 12).l ((bi f 0).fld 13).l ((bi f 0).fld 14).b ((bi f 0).fld 15).s ((bi f 0).fld 16).i ((bi f 0).fld 17).i ((bi f 0).fld 18).i ((bi f 0).fld 19).i ((bi f 0).fld 20).i ((bi f 0).fld 21).l true bx (fun bS bV b0 b1 b2 b3 b4 b5 b' ca cl cp ct c0 c' dg dr d' ea=>(hi bS bV b0 b1 b2 b3 b4 b5 b' ca cl cp ct c0 c' dg dr d' ea)) (fun eb ed ei ek en ep et ey e0 e1 e2 e3 e4 e5 e' fl fo fr fs fu fz f' gb=>(hj eb ed ei ek en ep et ey e0 e1 e2 e3 e4 e5 e' fl fo fr fs fu fz f' gb)))) else (j3 bs bx j m u z A M N O U V W X Y ad ae ap ar ax bb be bk f (⟨#[]⟩:BA) (⟨#[]⟩:BA) (⟨#[]⟩:BA) false (⟨#[]⟩:BA) false (⟨#[]⟩:BA) false (⟨#[]⟩:BA) false (⟨#[]⟩:BA) false (⟨#[]⟩:BA) 0 0 0 0 0)) else (j3 bs bx j m u z A M N O U V W X Y ad ae ap ar ax bb be bk f (⟨#[]⟩:BA) (⟨#[]⟩:BA) (⟨#[]⟩:BA) false (⟨#[]⟩:BA) false (⟨#[]⟩:BA) false (⟨#[]⟩:BA) false (⟨#[]⟩:BA) false (⟨#[]⟩:BA) 0 0 0 0 0)))) else (j3 bs bx a0 a1 a2 a3 a4 a5 a6 a7 a8 a9 gr g' a12 ha hb hc hd hf hg hh a20 a21 (⟨#[]⟩:BA) (⟨#[]⟩:BA) (⟨#[]⟩:BA) false (⟨#[]⟩:BA) false (⟨#[]⟩:BA) false (⟨#[]⟩:BA) false (⟨#[]⟩:BA) false (⟨#[]⟩:BA) 0 0 0 0 0))
def L3 {R:Type} (c1:an.F R) (c2:bK.F R) (j:Q0 R) (m:Q1 R):Nat->J3 R
 | 0=>fun _ _ _ _ _ _ _ _ _ _ _ _ _ _ _ _ _ _ _ _ _ _ _ _ _ _ _ _ _ _ _ _ _ _ _ _ _ _ _ _ _ _=>none
 | f+1=>t3 j m
def B {R:Type} (c1:an.F R) (c2:bK.F R):F R:=fun a0 a1 a2 a3 a4 a5 Y a7 a8 a9 m u a12 z A M N O U V a20 a21 W X f j=>e c1 c2 a0 a1 a2 a3 a4 a5 Y a7 a8 a9 m u a12 z A M N O U V a20 a21 W X (L3 c1 c2 f j ah) f j
def R {R:Type}:Nat->F R
 | 0=>fun _ _ _ _ _ _ _ _ _ _ _ _ _ _ _ _ _ _ _ _ _ _ _ _ _ _=>none
 | n+1=>B an (bK.R n)
end bK
def bK {R:Type}:bK.F R:=bK.R ah
abbrev dm.F (R:Type):Type:=BA->BA->BA->LA->Y3->BA->Y3->BA->Y3->BA->Y3->BA->LA->LA->Y3->BA->Int->Int->Int->Int->Int->LA->BA->(T1 R)->(T2 R)->Y1 R
namespace dm
abbrev J (R:Type):Type:=BA->BA->BA->BA->LA->T0 R
def b {R:Type} (c1:cm.F R) (c2:bK.F R) (f:T1 R) (k:BA->BA->BA->LA->T0 R) (p x0 x1 x2:BA) (x3:LA) (x4:Y3) (x5:BA) (x6:Y3) (x7:BA) (x8:Y3) (x9:BA) (V:Y3) (W:BA) (X Y:LA) (ad:Y3) (ae:BA) (ap ar ax a1 a6:Int) (a7:LA) (i:Y3):Y1 R:=
 c1 p (fun n=>(bif (n == 0) then (f (⟨#[]⟩:BA) (⟨#[]⟩:BA) (⟨#[]⟩:BA) false (⟨#[]⟩:BA) false (⟨#[]⟩:BA) false (⟨#[]⟩:BA) false (⟨#[]⟩:BA) false (⟨#[]⟩:BA) 0 0 0 0 0 false) else (c2 x0 x1 x2 x3 x4 x5 x6 x7 x8 x9 V W X Y ad ae ap ar ax a1 a6 a7 i n (fun y0 y1 y2 y3 y4 y5 y6 y7 y8 y9 m u z A M N O U j=>(bif !j then (f (⟨#[]⟩:BA) (⟨#[]⟩:BA) (⟨#[]⟩:BA) false (⟨#[]⟩:BA) false (⟨#[]⟩:BA) false (⟨#[]⟩:BA) false (⟨#[]⟩:BA) false (⟨#[]⟩:BA) 0 0 0 0 0 false) else none)) (fun y0 y1 y2 y3 y4 y5 y6 y7 y8 y9 m u z A M N O U j a8 bb be bk=>(bif !bk then (f (⟨#[]⟩:BA) (⟨#[]⟩:BA) (⟨#[]⟩:BA) false (⟨#[]⟩:BA) false (⟨#[]⟩:BA) false (⟨#[]⟩:BA) false (⟨#[]⟩:BA) false (⟨#[]⟩:BA) 0 0 0 0 0 false) else (k y0 y1 y2 y3 y4 y5 y6 y7 y8 y9 m u z A M N O U j a8 bb be))))))
def t {R:Type} (c1:cm.F R) (c2:bK.F R) (c3:aO.F R) (f:T1 R) (ad:T2 R) (q:BA) (j:J R) (p x0 x1 x2:BA) (x3:LA) (x4:Y3) (x5:BA) (x6:Y3) (x7:BA) (x8:Y3) (x9:BA) (m:Y3) (u:BA) (z A:LA) (M:Y3) (N:BA) (O U V W X:Int) (Y:LA) (i:Y3):Y1 R:=
 c3 p (⟨#[46]⟩:BA) (fun n=>(bif decide (n<0) then (b c1 c2 f (fun y0 y1 y2 y3 y4 y5 y6 y7 y8 y9 ae ap ar ax a1 a6 a7 a8 bb be bk bs=>ad q y1 y2 y3 y4 y5 y6 y7 y8 y9 ae ap ar ax a1 a6 a7 a8 bb be bk bs true) p x0 x1 x2 x3 x4 x5 x6 x7 x8 x9 m u z A M N O U V W X Y i) else (bo (decide (n+1<=(p.size:Int))) (b c1 c2 f (j (p.extract (n.toNat+1) p.size)) (p.extract 0 n.toNat) x0 x1 x2 x3 x4 x5 x6 x7 x8 x9 m u z A M N O U V W X Y i))))
def L {R:Type} (c1:cm.F R) (c2:bK.F R) (c3:aO.F R) (j:T1 R) (m:T2 R) (q:BA):Nat->Y3->J R
 | 0=>fun _ _ _ _ _ _ _ _ _ _ _ _ _ _ _ _ _ _ _ _ _ _ _ _=>none
 | f+1=>fun i p x0 x1 x2 x3 x4 x5 x6 x7 x8 x9 u z A M N O U V W X Y ad=>t c1 c2 c3 j m q (L c1 c2 c3 j m q f false) p x0 x1 x2 x3 x4 x5 x6 x7 x8 x9 u z A M N O U V W X Y ad i
end dm
def dm {R:Type}:dm.F R:=fun a0 a1 a2 a3 a4 a5 X Y a8 a9 j m a12 u z A M N O U a20 a21 f W V =>
 (bif decide (f=(⟨#[]⟩:BA)) then (V a0 a1 a2 a3 a4 a5 X Y a8 a9 j m a12 u z A M N O U a20 a21 true) else (bo (decide (f.size<281474976710656)) (dm.L cm bK aO W V f ah true f a0 a1 a2 a3 a4 a5 X Y a8 a9 j m a12 u z A M N O U a20 a21)))
abbrev ci.Q0 (R:Type):Type:=Y3->BA->BA->BA->Y3->BA->Y3->BA->Y3->BA->Y3->BA->Y3->BA->Int->Int->Int->Int->Int->Y1 R
abbrev ci.F (R:Type):Type:=BA->BA->BA->Y3->BA->Y3->BA->Y3->BA->Y3->BA->Y3->BA->Int->Int->Int->Int->Int->ci.Q0 R->Y1 R
namespace ci
def e {R:Type} (a0 a1 a2:BA) (a3:Y3) (a4:BA) (a5:Y3) (O:BA) (U:Y3) (V:BA) (a9:Y3) (f:BA) (j:Y3) (a12:BA) (m u z A M:Int) (N:Q0 R):Y1 R:=
 (bif decide (a1=(⟨#[109,101,115,115,97,103,101]⟩:BA)) then (N (decide (a2=(⟨#[114,102,99,56,50,50]⟩:BA))) a0 a1 a2 a3 a4 a5 O U V a9 f j a12 m u z A M) else (N false a0 a1 a2 a3 a4 a5 O U V a9 f j a12 m u z A M))
end ci
def ci {R:Type}:ci.F R:=fun a0 a1 a2 a3 a4 a5 O U V a9 f j a12 m u z A M N=>ci.e a0 a1 a2 a3 a4 a5 O U V a9 f j a12 m u z A M N
abbrev dB.F (R:Type):Type:=BA->Int->Int->(BA->Y3->Y1 R)->Y1 R
namespace dB
def e {R:Type} (a0:BA) (a1 a2:Int) (f:BA->Y3->Y1 R):Y1 R:=
 (bif decide (a1<0) then (f (⟨#[]⟩:BA) false) else (bif decide (a2<a1) then (f (⟨#[]⟩:BA) false) else (bif decide (a2>a0.size) then (f (⟨#[]⟩:BA) false) else (bo ((decide (0<=a1))&&(decide (a1<=a2)&&decide (a2<=a0.size))) (f (a0.extract (a1).toNat (a2).toNat) true)))))
end dB
def dB {R:Type}:dB.F R:=fun a0 a1 a2 f=>dB.e a0 a1 a2 f
abbrev bG.F (R:Type):Type:=BA->BA->(Y3->Y1 R)->Y1 R
namespace bG
def e {R:Type} (c1:bN.F R) (a0 a1:BA) (j:Y3->Y1 R):Y1 R:=
 (c1 a0 a1 (fun f=>(j f)))
end bG
def bG {R:Type}:bG.F R:=fun a0 a1 f=>bG.e bN a0 a1 f
abbrev aA.F (R:Type):Type:=LA->BA->(Int->LA->Y1 R)->Y1 R
namespace aA
def e {R:Type} (c1:bL.F R) (a0:LA) (a1:BA) (j:Int->LA->Y1 R):Y1 R:=
 (c1 a0 (fun f=>(bo (decide ((f.length+(eh a1).length)*1<=140737488355328)) (j (a1.size:Int) (f++(eh a1))))))
end aA
def aA {R:Type}:aA.F R:=fun a0 a1 f=>aA.e bL a0 a1 f
abbrev cJ.F (R:Type):Type:=BA->Y3->LA->(BA->Y1 R)->Y1 R
namespace cJ
abbrev J3 (R:Type):Type:=Y3->LA->Int->Int->LA->LA->Y1 R
abbrev J7 (R:Type):Type:=Y3->LA->Y3->Int->Int->LA->Int->Int->LA->BA->BA->Y3->Y3->LA->Y1 R
def t3 {R:Type} (c2:aA.F R) (c3:av.F R) (U:J7 R) (z:BA->Y1 R):J3 R:=
 fun x0 A N f O u=>(bif decide (f<N) then (bo (decide (0<=f)&&decide (f<u.length)) (U x0 A false N f A (A.length:Int) 0 O ((bi u f).fld 0).s ((bi u f).fld 1).s ((bi u f).fld 2).b ((bi u f).fld 3).b u)) else (c2 O (⟨#[13,10]⟩:BA) (fun M j=>(c3 j (fun m=>(z m))))))
def t7 {R:Type} (c2:aA.F R) (c4:cv.F R) (c5:bG.F R) (j3:J3 R) (j7:J7 R):J7 R:=
 fun x0 U x2 V W X x6 z Y x9 m A u f=>(bif decide (z<x6) then (bo (decide (0<=z)&&decide (z<X.length)) (bif x2 then (j7 x0 U true V W X x6 (wrap .i64 (z+1)) Y x9 m A u f) else (bif u then (c4 m (bi X z).s (fun M=>(j7 x0 U M V W X x6 (wrap .i64 (z+1)) Y x9 m A u f))) else (j7 x0 U false V W X x6 (wrap .i64 (z+1)) Y x9 m A u f)))) else (bif (x2 == x0) then (j3 x0 U V (wrap .i64 (W+1)) Y f) else (c2 Y x9 (fun ad j=>(c5 x9 (⟨#[13,10]⟩:BA) (fun N=>(bif !N then (c2 j (⟨#[13,10]⟩:BA) (fun ae O=>(j3 x0 U V (wrap .i64 (W+1)) O f))) else (j3 x0 U V (wrap .i64 (W+1)) j f))))))))
def e {R:Type} (c1:bA.F R) (c2:aA.F R) (c3:av.F R) (c4:cv.F R) (c5:bG.F R) (a0:BA) (a1:Y3) (a2:LA) (j:J3 R) (u:J7 R) (m:BA->Y1 R):Y1 R:=
 (c1 a0 (fun f=>(j a1 a2 (f.length:Int) 0 ([]:LA) f)))
def M3 {R:Type} (c1:bA.F R) (c2:aA.F R) (c3:av.F R) (c4:cv.F R) (c5:bG.F R) (j:BA->Y1 R):Nat->(J3 R) × (J7 R)
 | 0=>(fun _ _ _ _ _ _=>none,fun _ _ _ _ _ _ _ _ _ _ _ _ _ _=>none)
 | f+1=>(t3 c2 c3 ((M3 c1 c2 c3 c4 c5 j f).2) j,
  t7 c2 c4 c5 ((M3 c1 c2 c3 c4 c5 j f).1) ((M3 c1 c2 c3 c4 c5 j f).2))
def L3 {R:Type} (c1:bA.F R) (c2:aA.F R) (c3:av.F R) (c4:cv.F R) (c5:bG.F R) (j:BA->Y1 R) (f:Nat):J3 R:=(M3 c1 c2 c3 c4 c5 j f).1
def L7 {R:Type} (c1:bA.F R) (c2:aA.F R) (c3:av.F R) (c4:cv.F R) (c5:bG.F R) (j:BA->Y1 R) (f:Nat):J7 R:=(M3 c1 c2 c3 c4 c5 j f).2
end cJ
def cJ {R:Type}:cJ.F R:=fun a0 a1 a2 f=>cJ.e bA aA av cv bG a0 a1 a2 (cJ.L3 bA aA av cv bG f ah) (cJ.L7 bA aA av cv bG f ah) f
abbrev aW.F (R:Type):Type:=BA->BA->BA->BA->LA->Y3->BA->Y3->BA->Y3->BA->Y3->BA->LA->LA->Y3->BA->Int->Int->Int->Int->Int->LA->BA->Int->LA->(BA->Y3->Y1 R)->Y1 R
namespace aW
abbrev BU (R:Type):Type:=BA->Int->BA->Int->LA->BA->BA->BA->LA->Y3->BA->Y3->BA->Y3->BA->Y3->BA->LA->LA->Y3->BA->Int->Int->Int->Int->Int->LA->BA->BA->BA->LA->T0 R
def t10 {R:Type} (c4:dB.F R) (c5:cJ.F R) (f:BA->Y3->Y1 R):BU R:=
 fun x0 x1 x2 x3 x4 x5 x6 x7 x8 x9 bb be bk bs bx bP bS bV b0 b1 b2 ar ax a1 a6 b3 b4 b5 b' ca cl cp ct c0 c' dg dr d' ea eb ed ei ek j m a7 a8 en ep=>(bif (x1 == 0) then (bif decide (x2=(⟨#[]⟩:BA)) then (f x0 true) else (c4 x0 a1 a6 (fun u z=>(f u z)))) else (bif (x1 == 1) then (c4 x0 j m (fun A M=>(f A M))) else (bif (x1 == 4) then (c4 x0 a7 a8 (fun N O=>(f N O))) else (bif (x1 == 2) then (c4 x0 j m (fun U V=>(bif !V then (f (⟨#[]⟩:BA) false) else (c5 U (x3 == 3) x4 (fun W=>(f W true)))))) else (bif (x1 == 3) then (c4 x0 j m (fun X Y=>(bif !Y then (f (⟨#[]⟩:BA) false) else (c5 X (x3 == 3) x4 (fun ad=>(f ad true)))))) else (bif (x1 == 5) then (bif (!decide (x2=(⟨#[]⟩:BA))) then (c4 x0 ar ax (fun ae ap=>(f ae ap))) else (f (⟨#[]⟩:BA) false)) else (f (⟨#[]⟩:BA) false)))))))
def e {R:Type} (c1:dm.F R) (c2:ci.F R) (c3:an.F R) (c4:dB.F R) (c5:cJ.F R) (a0 a1 a2 a3:BA) (a4:LA) (a5:Y3) (a6:BA) (a7:Y3) (a8:BA) (a9:Y3) (hb:BA) (hc:Y3) (a12:BA) (hd hf:LA) (hg:Y3) (hh:BA) (hi hj hk a20 a21:Int) (hl:LA) (dr:BA) (a24:Int) (d':LA) (ea:BU R) (eb:BA->Y3->Y1 R):Y1 R:=
 (c1 a1 a2 a3 a4 a5 a6 a7 a8 a9 hb hc a12 hd hf hg hh hi hj hk a20 a21 hl dr (fun j m u z A M N O U V W X Y ad ae ap ar ax ed=>(bif !ed then (eb (⟨#[]⟩:BA) false) else (bif (!decide (dr=(⟨#[]⟩:BA))) then (bif (a24 != 0) then (bif (a24 != 5) then (c2 j m u z A M N O U V W X Y ad ae ap ar ax (fun ei hn ho hp hq hr hs ht hv hx hz hA hB hC hD hE hF hJ hK=>(bif !ei then (eb (⟨#[]⟩:BA) false) else (eb (⟨#[]⟩:BA) false)))) else (ea a0 a24 dr a24 d' j m u ([]:LA) z A M N O U V W ([]:LA) ([]:LA) X Y ad ae ap ar ax ([]:LA) j m u ([]:LA) z A M N O U V W ([]:LA) ([]:LA) X Y ad ae ap ar ax ([]:LA))) else (ea a0 a24 dr a24 d' j m u ([]:LA) z A M N O U V W ([]:LA) ([]:LA) X Y ad ae ap ar ax ([]:LA) j m u ([]:LA) z A M N O U V W ([]:LA) ([]:LA) X Y ad ae ap ar ax ([]:LA))) else (ea a0 a24 dr a24 d' j m u ([]:LA) z A M N O U V W ([]:LA) ([]:LA) X Y ad ae ap ar ax ([]:LA) j m u ([]:LA) z A M N O U V W ([]:LA) ([]:LA) X Y ad ae ap ar ax ([]:LA))))) (fun bb be bk bs bx bP bS bV b0 b1 b2 b3 b4 b5 b' ca cl cp ct c0 c' dg ek=>(bif !ek then (eb (⟨#[]⟩:BA) false) else (bif (!decide (dr=(⟨#[]⟩:BA))) then (bif (a24 != 0) then (bif (a24 != 5) then (c3 bb be bk bs bx bP bS bV b0 b1 b2 b3 b4 b5 b' ca cl cp ct c0 c' dg (fun en ep et ey e0 e1 e2 e3 e4 e5 e' fl fo fr fs fu fz f' gb gr g' ha f=>(bif !en then (eb (⟨#[]⟩:BA) false) else (bif ((f.length:Int) == 0) then (eb (⟨#[]⟩:BA) false) else (bo (decide (0<(f.length:Int))) (ea a0 a24 dr a24 d' ep et ey e0 e1 e2 e3 e4 e5 e' fl fo fr fs fu fz f' gb gr g' ha f ((bi f 0).fld 0).s ((bi f 0).fld 1).s ((bi f 0).fld 2).s ((bi f 0).fld 3).l ((bi f 0).fld 4).b ((bi f 0).fld 5).s ((bi f 0).fld 6).b ((bi f 0).fld 7).s ((bi f 0).fld 8).b ((bi f 0).fld 9).s ((bi f 0).fld 10).b ((bi f 0).fld 11).s ((bi f 0).fld 12).l ((bi f 0).fld 13).l ((bi f 0).fld 14).b ((bi f 0).fld 15).s ((bi f 0).fld 16).i ((bi f 0).fld 17).i ((bi f 0).fld 18).i ((bi f 0).fld 19).i ((bi f 0).fld 20).i ((bi f 0).fld 21).l)))))) else (ea a0 a24 dr a24 d' bb be bk bs bx bP bS bV b0 b1 b2 b3 b4 b5 b' ca cl cp ct c0 c' dg bb be bk bs bx bP bS bV b0 b1 b2 b3 b4 b5 b' ca cl cp ct c0 c' dg)) else (ea a0 a24 dr a24 d' bb be bk bs bx bP bS bV b0 b1 b2 b3 b4 b5 b' ca cl cp ct c0 c' dg bb be bk bs bx bP bS bV b0 b1 b2 b3 b4 b5 b' ca cl cp ct c0 c' dg)) else (ea a0 a24 dr a24 d' bb be bk bs bx bP bS bV b0 b1 b2 b3 b4 b5 b' ca cl cp ct c0 c' dg bb be bk bs bx bP bS bV b0 b1 b2 b3 b4 b5 b' ca cl cp ct c0 c' dg)))))
def Ap {R:Type} (c1:dm.F R) (c2:ci.F R) (c3:an.F R) (c4:dB.F R) (c5:cJ.F R) (j:BA->Y3->Y1 R):Nat->BU R
 | 0=>fun _ _ _ _ _ _ _ _ _ _ _ _ _ _ _ _ _ _ _ _ _ _ _ _ _ _ _ _ _ _ _ _ _ _ _ _ _ _ _ _ _ _ _ _ _ _ _ _ _=>none
 | f+1=>t10 c4 c5 j
end aW
def aW {R:Type}:aW.F R:=fun a0 a1 a2 a3 a4 a5 Y a7 a8 a9 j m a12 u z A M N O U a20 a21 V W a24 X f=>aW.e dm ci an dB cJ a0 a1 a2 a3 a4 a5 Y a7 a8 a9 j m a12 u z A M N O U a20 a21 V W a24 X (aW.Ap dm ci an dB cJ f ah) f
abbrev bz.F (R:Type):Type:=LA->LA->(Y3->Y1 R)->Y1 R
namespace bz
abbrev J4 (R:Type):Type:=LA->LA->Int->Y1 R
def t4 {R:Type} (u:J4 R) (j:Y3->Y1 R):J4 R:=
 fun x0 m f=>(bif decide (f<x0.length) then (bo (decide (0<=f)&&decide (f<x0.length)) (bo (decide (0<=f)&&decide (f<m.length)) (bif (!decide ((bi x0 f).s=(bi m f).s)) then (j false) else (u x0 m (wrap .i64 (f+1)))))) else (j true))
def e {R:Type} (a0 a1:LA) (j:J4 R) (f:Y3->Y1 R):Y1 R:=
 (bif ((a0.length:Int) != (a1.length:Int)) then (f false) else (j a0 a1 0))
def L4 {R:Type} (j:Y3->Y1 R):Nat->J4 R
 | 0=>fun _ _ _=>none
 | f+1=>t4 (L4 j f) j
end bz
def bz {R:Type}:bz.F R:=fun a0 a1 f=>bz.e a0 a1 (bz.L4 f ah) f
abbrev aK.F (R:Type):Type:=BA->(Y3->Y1 R)->(LA->Y3->Y1 R)->Y1 R
namespace aK
abbrev J5 (R:Type):Type:=BA->Int->Int->Int->LA->Y1 R
def t5 {R:Type} (z:J5 R) (j:Y3->Y1 R) (M:LA->Y3->Y1 R):J5 R:=
 fun x0 A u f m=>(bif decide (f<=x0.size) then (bif decide (f<x0.size) then (bo (decide (0<=f)&&decide (f<x0.size)) (bif ((dP x0 f) != 46) then (bo (decide (0<=f)&&decide (f<x0.size)) (bif decide ((dP x0 f)<(48:Int)) then (j false) else (bif decide ((dP x0 f)>(57:Int)) then (j false) else (bif ((dP x0 f) == 48) then (bif (f == u) then (j false) else (z x0 (min2 (wrap .i64 ((wrap .i64 (A*10))+(wrap .i64 (wrap .u8 ((dP x0 f)-48))))) 1000000) u (wrap .i64 (f+1)) m)) else (z x0 (min2 (wrap .i64 ((wrap .i64 (A*10))+(wrap .i64 (wrap .u8 ((dP x0 f)-48))))) 1000000) u (wrap .i64 (f+1)) m))))) else (bif (f == u) then (j false) else (bo (decide ((m.length+1)*8<=140737488355328)) (z x0 0 (wrap .i64 (f+1)) (wrap .i64 (f+1)) (m++[AV.int A])))))) else (bif (f == u) then (j false) else (bo (decide ((m.length+1)*8<=140737488355328)) (z x0 0 (wrap .i64 (f+1)) (wrap .i64 (f+1)) (m++[AV.int A]))))) else (M m true))
def e {R:Type} (a0:BA) (f:J5 R) (j:Y3->Y1 R) (m:LA->Y3->Y1 R):Y1 R:=
 (f a0 0 0 0 ([]:LA))
def L5 {R:Type} (j:Y3->Y1 R) (m:LA->Y3->Y1 R):Nat->J5 R
 | 0=>fun _ _ _ _ _=>none
 | f+1=>t5 (L5 j m f) j m
end aK
def aK {R:Type}:aK.F R:=fun a0 f j=>aK.e a0 (aK.L5 f j ah) f j
abbrev cR.Q0 (R:Type):Type:=T2 R
abbrev cR.Q1 (R:Type):Type:=T1 R
abbrev cR.F (R:Type):Type:=BA->BA->BA->LA->Y3->BA->Y3->BA->Y3->BA->Y3->BA->LA->LA->Y3->BA->Int->Int->Int->Int->Int->LA->BA->cR.Q0 R->cR.Q1 R->Y1 R
namespace cR
abbrev J4 (R:Type):Type:=BA->Y3->T4 R
abbrev J8 (R:Type):Type:=BA->Y3->Int->T4 R
abbrev J9 (R:Type):Type:=BA->Y3->Int->T4 R
abbrev An (R:Type):Type:=BA->Y3->Int->Int->T4 R
abbrev tK (R:Type):Type:=BA->Y3->Int->Int->T4 R
abbrev Ao (R:Type):Type:=BA->Int->T4 R
def t4 {R:Type} (j8:J8 R) (f:Q1 R):J4 R:=
 fun x0 x1 x2 x3 x4 x5 x6 x7 x8 x9 j m u z A M N O U V W X Y ad ae ap ar ax a1 a6 a7 a8 bb be bk bs bx bP bS bV b0 b1 b2=>(bif !x1 then (f (⟨#[]⟩:BA) (⟨#[]⟩:BA) (⟨#[]⟩:BA) false (⟨#[]⟩:BA) false (⟨#[]⟩:BA) false (⟨#[]⟩:BA) false (⟨#[]⟩:BA) false (⟨#[]⟩:BA) 0 0 0 0 0 false) else (j8 x0 true 0 x2 x3 x4 x5 x6 x7 x8 x9 j m u z A M N O U V W X Y ad ae ap ar ax a1 a6 a7 a8 bb be bk bs bx bP bS bV b0 b1 b2))
def t8 {R:Type} (u:An R) (b5:Q0 R):J8 R:=
 fun x0 x1 m x3 x4 x5 x6 x7 x8 x9 z A M N O U V W X Y ad ae ap ar f ax a1 a6 a7 a8 bb be bk bs bx bP bS bV b0 b1 b2 b3 b4 j=>(bif decide (m<j.length) then (bo (decide (0<=m)&&decide (m<j.length)) (bif decide (x4=(⟨#[109,101,115,115,97,103,101]⟩:BA)) then (bif decide ((f.length:Int)>(0:Int)) then (bif !x1 then (bo (decide (0<(f.length:Int))) (u x0 true m (bi j m).i ((bi f 0).fld 0).s ((bi f 0).fld 1).s ((bi f 0).fld 2).s ((bi f 0).fld 3).l ((bi f 0).fld 4).b ((bi f 0).fld 5).s ((bi f 0).fld 6).b ((bi f 0).fld 7).s ((bi f 0).fld 8).b ((bi f 0).fld 9).s ((bi f 0).fld 10).b ((bi f 0).fld 11).s ((bi f 0).fld 12).l ((bi f 0).fld 13).l ((bi f 0).fld 14).b ((bi f 0).fld 15).s ((bi f 0).fld 16).i ((bi f 0).fld 17).i ((bi f 0).fld 18).i ((bi f 0).fld 19).i ((bi f 0).fld 20).i ((bi f 0).fld 21).l ax a1 a6 a7 a8 bb be bk bs bx bP bS bV b0 b1 b2 b3 b4 j)) else (u x0 x1 m (bi j m).i x3 x4 x5 x6 x7 x8 x9 z A M N O U V W X Y ad ae ap ar f ax a1 a6 a7 a8 bb be bk bs bx bP bS bV b0 b1 b2 b3 b4 j)) else (u x0 x1 m (bi j m).i x3 x4 x5 x6 x7 x8 x9 z A M N O U V W X Y ad ae ap ar f ax a1 a6 a7 a8 bb be bk bs bx bP bS bV b0 b1 b2 b3 b4 j)) else (u x0 x1 m (bi j m).i x3 x4 x5 x6 x7 x8 x9 z A M N O U V W X Y ad ae ap ar f ax a1 a6 a7 a8 bb be bk bs bx bP bS bV b0 b1 b2 b3 b4 j))) else (b5 x0 x4 x5 x6 x7 x8 x9 z A M N O U V W X Y ad ae ap ar f true))
def t9 {R:Type} (j8:J8 R):J9 R:=
 fun x0 x1 x2 x3 x4 x5 x6 x7 x8 x9 f j m u z A M N O U V W X Y ad ae ap ar ax a1 a6 a7 a8 bb be bk bs bx bP bS bV b0 b1 b2=>(j8 x0 x1 (wrap .i64 (x2+1)) x3 x4 x5 x6 x7 x8 x9 f j m u z A M N O U V W X Y ad ae ap ar ax a1 a6 a7 a8 bb be bk bs bx bP bS bV b0 b1 b2)
def t14 {R:Type} (a7:tK R) (b':Ao R) (ca:Q1 R):An R:=
 fun x0 x1 x2 j x4 x5 x6 x7 x8 x9 a8 bb be bk bs bx bP bS bV b0 b1 b2 b3 b4 b5 f m u z A M N O U V W X Y ad ae ap ar ax a1 a6=>(bif decide (x5=(⟨#[109,117,108,116,105,112,97,114,116]⟩:BA)) then (bif decide ((f.length:Int)>(0:Int)) then (bif decide (j>f.length) then (ca (⟨#[]⟩:BA) (⟨#[]⟩:BA) (⟨#[]⟩:BA) false (⟨#[]⟩:BA) false (⟨#[]⟩:BA) false (⟨#[]⟩:BA) false (⟨#[]⟩:BA) false (⟨#[]⟩:BA) 0 0 0 0 0 false) else (bo ((decide (0<=(wrap .i64 (j-1))))&&(decide ((wrap .i64 (j-1))<(f.length:Int)))) (b' x0 x2 ((bi f (wrap .i64 (j-1))).fld 0).s ((bi f (wrap .i64 (j-1))).fld 1).s ((bi f (wrap .i64 (j-1))).fld 2).s ((bi f (wrap .i64 (j-1))).fld 3).l ((bi f (wrap .i64 (j-1))).fld 4).b ((bi f (wrap .i64 (j-1))).fld 5).s ((bi f (wrap .i64 (j-1))).fld 6).b ((bi f (wrap .i64 (j-1))).fld 7).s ((bi f (wrap .i64 (j-1))).fld 8).b ((bi f (wrap .i64 (j-1))).fld 9).s ((bi f (wrap .i64 (j-1))).fld 10).b ((bi f (wrap .i64 (j-1))).fld 11).s ((bi f (wrap .i64 (j-1))).fld 12).l ((bi f (wrap .i64 (j-1))).fld 13).l ((bi f (wrap .i64 (j-1))).fld 14).b ((bi f (wrap .i64 (j-1))).fld 15).s ((bi f (wrap .i64 (j-1))).fld 16).i ((bi f (wrap .i64 (j-1))).fld 17).i ((bi f (wrap .i64 (j-1))).fld 18).i ((bi f (wrap .i64 (j-1))).fld 19).i ((bi f (wrap .i64 (j-1))).fld 20).i ((bi f (wrap .i64 (j-1))).fld 21).l m u z A M N O U V W X Y ad ae ap ar ax a1 a6))) else (a7 x0 x1 x2 j x4 x5 x6 x7 x8 x9 a8 bb be bk bs bx bP bS bV b0 b1 b2 b3 b4 b5 f m u z A M N O U V W X Y ad ae ap ar ax a1 a6)) else (a7 x0 x1 x2 j x4 x5 x6 x7 x8 x9 a8 bb be bk bs bx bP bS bV b0 b1 b2 b3 b4 b5 f m u z A M N O U V W X Y ad ae ap ar ax a1 a6))
def t18 {R:Type} (j:Ao R) (f:Q1 R):tK R:=
 fun x0 x1 x2 x3 x4 x5 x6 x7 x8 x9 m u z A M N O U V W X Y ad ae ap ar ax a1 a6 a7 a8 bb be bk bs bx bP bS bV b0 b1 b2 b3 b4 b5=>(bif !x1 then (f (⟨#[]⟩:BA) (⟨#[]⟩:BA) (⟨#[]⟩:BA) false (⟨#[]⟩:BA) false (⟨#[]⟩:BA) false (⟨#[]⟩:BA) false (⟨#[]⟩:BA) false (⟨#[]⟩:BA) 0 0 0 0 0 false) else (bif (x3 != 1) then (f (⟨#[]⟩:BA) (⟨#[]⟩:BA) (⟨#[]⟩:BA) false (⟨#[]⟩:BA) false (⟨#[]⟩:BA) false (⟨#[]⟩:BA) false (⟨#[]⟩:BA) false (⟨#[]⟩:BA) 0 0 0 0 0 false) else (j x0 x2 x4 x5 x6 x7 x8 x9 m u z A M N O U V W X Y ad ae ap ar ax a1 a6 a7 a8 bb be bk bs bx bP bS bV b0 b1 b2 b3 b4 b5)))
def t20 {R:Type} (j9:J9 R):Ao R:=
 fun x0 x1 x2 x3 x4 x5 x6 x7 x8 x9 f j m u z A M N O U V W X Y ad ae ap ar ax a1 a6 a7 a8 bb be bk bs bx bP bS bV b0 b1=>(j9 x0 false x1 x2 x3 x4 x5 x6 x7 x8 x9 f j m u z A M N O U V W X Y ad ae ap ar ax a1 a6 a7 a8 bb be bk bs bx bP bS bV b0 b1)
def e {R:Type} (c1:aK.F R) (a0 a1 a2:BA) (a3:LA) (a4:Y3) (a5:BA) (Y:Y3) (a7:BA) (a8:Y3) (a9:BA) (j:Y3) (m:BA) (a12 u:LA) (z:Y3) (A:BA) (M N O U a20:Int) (a21:LA) (f:BA) (j4:J4 R) (j8:J8 R) (j9:J9 R) (ae:An R) (ap:tK R) (ar:Ao R) (ad:Q0 R) (ax:Q1 R):Y1 R:=
 (bif decide (f=(⟨#[]⟩:BA)) then (ad a0 a1 a2 a3 a4 a5 Y a7 a8 a9 j m a12 u z A M N O U a20 a21 true) else (c1 f (fun V=>(j4 f V a0 a1 a2 a3 a4 a5 Y a7 a8 a9 j m a12 u z A M N O U a20 a21 (⟨#[]⟩:BA) (⟨#[]⟩:BA) (⟨#[]⟩:BA) false (⟨#[]⟩:BA) false (⟨#[]⟩:BA) false (⟨#[]⟩:BA) false (⟨#[]⟩:BA) false (⟨#[]⟩:BA) 0 0 0 0 0 ([]:LA))) (fun W X=>(j4 f X a0 a1 a2 a3 a4 a5 Y a7 a8 a9 j m a12 u z A M N O U a20 a21 (⟨#[]⟩:BA) (⟨#[]⟩:BA) (⟨#[]⟩:BA) false (⟨#[]⟩:BA) false (⟨#[]⟩:BA) false (⟨#[]⟩:BA) false (⟨#[]⟩:BA) false (⟨#[]⟩:BA) 0 0 0 0 0 W))))
def M8 {R:Type} (c1:aK.F R) (m:Q0 R) (j:Q1 R):Nat->(J8 R) × (J9 R) × (An R) × (tK R) × (Ao R)
 | 0=>(fun _ _ _ _ _ _ _ _ _ _ _ _ _ _ _ _ _ _ _ _ _ _ _ _ _ _ _ _ _ _ _ _ _ _ _ _ _ _ _ _ _ _ _ _=>none,fun _ _ _ _ _ _ _ _ _ _ _ _ _ _ _ _ _ _ _ _ _ _ _ _ _ _ _ _ _ _ _ _ _ _ _ _ _ _ _ _ _ _ _ _=>none,fun _ _ _ _ _ _ _ _ _ _ _ _ _ _ _ _ _ _ _ _ _ _ _ _ _ _ _ _ _ _ _ _ _ _ _ _ _ _ _ _ _ _ _ _ _=>none,fun _ _ _ _ _ _ _ _ _ _ _ _ _ _ _ _ _ _ _ _ _ _ _ _ _ _ _ _ _ _ _ _ _ _ _ _ _ _ _ _ _ _ _ _ _=>none,fun _ _ _ _ _ _ _ _ _ _ _ _ _ _ _ _ _ _ _ _ _ _ _ _ _ _ _ _ _ _ _ _ _ _ _ _ _ _ _ _ _ _ _=>none)
 | f+1=>(t8 ((M8 c1 m j f).2.2.1) m,
  t9 ((M8 c1 m j f).1),
  t14 ((M8 c1 m j f).2.2.2.1) ((M8 c1 m j f).2.2.2.2) j,
  t18 ((M8 c1 m j f).2.2.2.2) j,
  t20 ((M8 c1 m j f).2.1))
def L8 {R:Type} (c1:aK.F R) (j:Q0 R) (m:Q1 R) (f:Nat):J8 R:=(M8 c1 j m f).1
def L9 {R:Type} (c1:aK.F R) (j:Q0 R) (m:Q1 R) (f:Nat):J9 R:=(M8 c1 j m f).2.1
def BI {R:Type} (c1:aK.F R) (j:Q0 R) (m:Q1 R) (f:Nat):An R:=(M8 c1 j m f).2.2.1
def rj {R:Type} (c1:aK.F R) (j:Q0 R) (m:Q1 R) (f:Nat):tK R:=(M8 c1 j m f).2.2.2.1
def BJ {R:Type} (c1:aK.F R) (j:Q0 R) (m:Q1 R) (f:Nat):Ao R:=(M8 c1 j m f).2.2.2.2
def L4 {R:Type} (c1:aK.F R) (m:Q0 R) (j:Q1 R):Nat->J4 R
 | 0=>fun _ _ _ _ _ _ _ _ _ _ _ _ _ _ _ _ _ _ _ _ _ _ _ _ _ _ _ _ _ _ _ _ _ _ _ _ _ _ _ _ _ _ _=>none
 | f+1=>t4 (L8 c1 m j f) j
end cR
def cR {R:Type}:cR.F R:=fun a0 a1 a2 a3 a4 a5 X Y a8 a9 m u a12 z A M N O U V a20 a21 W f j=>cR.e aK a0 a1 a2 a3 a4 a5 X Y a8 a9 m u a12 z A M N O U V a20 a21 W (cR.L4 aK f j ah) (cR.L8 aK f j ah) (cR.L9 aK f j ah) (cR.BI aK f j ah) (cR.rj aK f j ah) (cR.BJ aK f j ah) f j
abbrev dJ.F (R:Type):Type:=BA->Int->Int->(BA->Y3->Y1 R)->Y1 R
namespace dJ
def e {R:Type} (a0:BA) (a1 a2:Int) (f:BA->Y3->Y1 R):Y1 R:=
 (bif decide (a1<0) then (f (⟨#[]⟩:BA) false) else (bif decide (a2<a1) then (f (⟨#[]⟩:BA) false) else (bif decide (a2>a0.size) then (f (⟨#[]⟩:BA) false) else (bo ((decide (0<=a1))&&(decide (a1<=a2)&&decide (a2<=a0.size))) (f (a0.extract (a1).toNat (a2).toNat) true)))))
end dJ
def dJ {R:Type}:dJ.F R:=fun a0 a1 a2 f=>dJ.e a0 a1 a2 f
abbrev dd.F (R:Type):Type:=BA->Y3->LA->(BA->Y1 R)->Y1 R
namespace dd
abbrev J4 (R:Type):Type:=Y3->LA->BA->Int->LA->Y1 R
abbrev J8 (R:Type):Type:=Y3->LA->BA->Int->Y3->Int->LA->Y1 R
def t4 {R:Type} (z:J8 R) (f:BA->Y1 R):J4 R:=
 fun x0 A j m u=>(bif decide (m<u.length) then (z x0 A j m false 0 u) else (bo (decide (j.size+(⟨#[13,10]⟩:BA).size<=9223372036854775807)) (f (j++(⟨#[13,10]⟩:BA)))))
def t8 {R:Type} (c2:cw.F R) (c3:bU.F R) (z:J4 R) (W:J8 R):J8 R:=
 fun x0 u m f X A j=>(bif decide (A<u.length) then (bif X then (W x0 u m f true (wrap .i64 (A+1)) j) else (bo (decide (0<=f)&&decide (f<j.length)) (bif (!decide (((bi j f).fld 0).s=(⟨#[]⟩:BA))) then (bo (decide (0<=f)&&decide (f<j.length)) (bo (decide (0<=A)&&decide (A<u.length)) (c2 ((bi j f).fld 0).s (bi u A).s (fun M=>(W x0 u m f M (wrap .i64 (A+1)) j))))) else (W x0 u m f false (wrap .i64 (A+1)) j)))) else (bo (decide (0<=f)&&decide (f<j.length)) (bif (decide (((bi j f).fld 0).s=(⟨#[]⟩:BA))) then (bif !x0 then (z x0 u m (wrap .i64 (f+1)) j) else (bo (decide (0<=f)&&decide (f<j.length)) (bif (!decide (((bi j f).fld 0).s=(⟨#[]⟩:BA))) then (bif (X == x0) then (z x0 u m (wrap .i64 (f+1)) j) else (bo (decide (0<=f)&&decide (f<j.length)) (bo (decide (m.size+((bi j f).fld 2).s.size<=9223372036854775807)) (bo (decide (0<=f)&&decide (f<j.length)) (c3 ((bi j f).fld 2).s (fun N=>(bo (decide (0<=f)&&decide (f<j.length)) (bif ((N.size:Int) == (((bi j f).fld 2).s.size:Int)) then (bo (decide ((m++((bi j f).fld 2).s).size+(⟨#[13,10]⟩:BA).size<=9223372036854775807)) (z x0 u ((m++((bi j f).fld 2).s)++(⟨#[13,10]⟩:BA)) (wrap .i64 (f+1)) j)) else (z x0 u (m++((bi j f).fld 2).s) (wrap .i64 (f+1)) j))))))))) else (bo (decide (0<=f)&&decide (f<j.length)) (bo (decide (m.size+((bi j f).fld 2).s.size<=9223372036854775807)) (bo (decide (0<=f)&&decide (f<j.length)) (c3 ((bi j f).fld 2).s (fun O=>(bo (decide (0<=f)&&decide (f<j.length)) (bif ((O.size:Int) == (((bi j f).fld 2).s.size:Int)) then (bo (decide ((m++((bi j f).fld 2).s).size+(⟨#[13,10]⟩:BA).size<=9223372036854775807)) (z x0 u ((m++((bi j f).fld 2).s)++(⟨#[13,10]⟩:BA)) (wrap .i64 (f+1)) j)) else (z x0 u (m++((bi j f).fld 2).s) (wrap .i64 (f+1)) j))))))))))) else (bo (decide (0<=f)&&decide (f<j.length)) (bif (!decide (((bi j f).fld 0).s=(⟨#[]⟩:BA))) then (bif (X == x0) then (z x0 u m (wrap .i64 (f+1)) j) else (bo (decide (0<=f)&&decide (f<j.length)) (bo (decide (m.size+((bi j f).fld 2).s.size<=9223372036854775807)) (bo (decide (0<=f)&&decide (f<j.length)) (c3 ((bi j f).fld 2).s (fun U=>(bo (decide (0<=f)&&decide (f<j.length)) (bif ((U.size:Int) == (((bi j f).fld 2).s.size:Int)) then (bo (decide ((m++((bi j f).fld 2).s).size+(⟨#[13,10]⟩:BA).size<=9223372036854775807)) (z x0 u ((m++((bi j f).fld 2).s)++(⟨#[13,10]⟩:BA)) (wrap .i64 (f+1)) j)) else (z x0 u (m++((bi j f).fld 2).s) (wrap .i64 (f+1)) j))))))))) else (bo (decide (0<=f)&&decide (f<j.length)) (bo (decide (m.size+((bi j f).fld 2).s.size<=9223372036854775807)) (bo (decide (0<=f)&&decide (f<j.length)) (c3 ((bi j f).fld 2).s (fun V=>(bo (decide (0<=f)&&decide (f<j.length)) (bif ((V.size:Int) == (((bi j f).fld 2).s.size:Int)) then (bo (decide ((m++((bi j f).fld 2).s).size+(⟨#[13,10]⟩:BA).size<=9223372036854775807)) (z x0 u ((m++((bi j f).fld 2).s)++(⟨#[13,10]⟩:BA)) (wrap .i64 (f+1)) j)) else (z x0 u (m++((bi j f).fld 2).s) (wrap .i64 (f+1)) j)))))))))))))
def e {R:Type} (c1:bW.F R) (c2:cw.F R) (c3:bU.F R) (a0:BA) (a1:Y3) (a2:LA) (j:J4 R) (u:J8 R) (m:BA->Y1 R):Y1 R:=
 (c1 a0 (fun f=>(j a1 a2 (⟨#[]⟩:BA) 0 f)))
def M4 {R:Type} (c1:bW.F R) (c2:cw.F R) (c3:bU.F R) (j:BA->Y1 R):Nat->(J4 R) × (J8 R)
 | 0=>(fun _ _ _ _ _=>none,fun _ _ _ _ _ _ _=>none)
 | f+1=>(t4 ((M4 c1 c2 c3 j f).2) j,
  t8 c2 c3 ((M4 c1 c2 c3 j f).1) ((M4 c1 c2 c3 j f).2))
def L4 {R:Type} (c1:bW.F R) (c2:cw.F R) (c3:bU.F R) (j:BA->Y1 R) (f:Nat):J4 R:=(M4 c1 c2 c3 j f).1
def L8 {R:Type} (c1:bW.F R) (c2:cw.F R) (c3:bU.F R) (j:BA->Y1 R) (f:Nat):J8 R:=(M4 c1 c2 c3 j f).2
end dd
def dd {R:Type}:dd.F R:=fun a0 a1 a2 f=>dd.e bW cw bU a0 a1 a2 (dd.L4 bW cw bU f ah) (dd.L8 bW cw bU f ah) f
abbrev bd.F (R:Type):Type:=BA->BA->BA->BA->LA->Y3->BA->Y3->BA->Y3->BA->Y3->BA->LA->LA->Y3->BA->Int->Int->Int->Int->Int->LA->BA->Int->LA->(BA->Y3->Y1 R)->Y1 R
namespace bd
def e {R:Type} (c1:cR.F R) (c2:dJ.F R) (c3:dd.F R) (a0 a1 a2 a3:BA) (a4:LA) (a5:Y3) (a6:BA) (a7:Y3) (a8:BA) (a9:Y3) (fs:BA) (fu:Y3) (a12:BA) (fz f':LA) (gb:Y3) (gr:BA) (g' ha hb a20 a21:Int) (hc:LA) (m:BA) (a24:Int) (bx:LA) (f:BA->Y3->Y1 R):Y1 R:=
 (c1 a1 a2 a3 a4 a5 a6 a7 a8 a9 fs fu a12 fz f' gb gr g' ha hb a20 a21 hc m (fun hd bP hf hg hh hi hj hk hl hn ho hp hq hr hs ht u z A M hv j bV=>(bif !bV then (f (⟨#[]⟩:BA) false) else (bif decide (m=(⟨#[]⟩:BA)) then (bif (a24 == 0) then (f a0 true) else (bif (a24 == 0) then (c2 a0 A M (fun b0 b1=>(f b0 b1))) else (bif (a24 == 5) then (bif decide (m=(⟨#[]⟩:BA)) then (f (⟨#[]⟩:BA) false) else (c2 a0 u z (fun b2 b3=>(f b2 b3)))) else (bif decide (a24<1) then (f (⟨#[]⟩:BA) false) else (bif decide (a24>4) then (f (⟨#[]⟩:BA) false) else (bif (!decide (m=(⟨#[]⟩:BA))) then (bif (!decide (bP=(⟨#[109,101,115,115,97,103,101]⟩:BA))) then (f (⟨#[]⟩:BA) false) else (bif ((j.length:Int) == 0) then (f (⟨#[]⟩:BA) false) else (bo (decide (0<(j.length:Int))) (bif (a24 == 4) then (c2 a0 ((bi j 0).fld 18).i ((bi j 0).fld 19).i (fun b4 b5=>(f b4 b5))) else (c2 a0 ((bi j 0).fld 16).i ((bi j 0).fld 17).i (fun W X=>(bif !X then (f W X) else (bif (a24 == 1) then (f W X) else (c3 W (a24 == 3) bx (fun b'=>(f b' true))))))))))) else (bif (a24 == 4) then (c2 a0 A M (fun ca cl=>(f ca cl))) else (c2 a0 u z (fun Y ad=>(bif !ad then (f Y ad) else (bif (a24 == 1) then (f Y ad) else (c3 Y (a24 == 3) bx (fun cp=>(f cp true)))))))))))))) else (bif (a24 == 0) then (c2 a0 A M (fun ct c0=>(f ct c0))) else (bif (a24 == 5) then (bif decide (m=(⟨#[]⟩:BA)) then (f (⟨#[]⟩:BA) false) else (c2 a0 u z (fun c' dg=>(f c' dg)))) else (bif decide (a24<1) then (f (⟨#[]⟩:BA) false) else (bif decide (a24>4) then (f (⟨#[]⟩:BA) false) else (bif (!decide (m=(⟨#[]⟩:BA))) then (bif (!decide (bP=(⟨#[109,101,115,115,97,103,101]⟩:BA))) then (f (⟨#[]⟩:BA) false) else (bif ((j.length:Int) == 0) then (f (⟨#[]⟩:BA) false) else (bo (decide (0<(j.length:Int))) (bif (a24 == 4) then (c2 a0 ((bi j 0).fld 18).i ((bi j 0).fld 19).i (fun dr d'=>(f dr d'))) else (c2 a0 ((bi j 0).fld 16).i ((bi j 0).fld 17).i (fun ae ap=>(bif !ap then (f ae ap) else (bif (a24 == 1) then (f ae ap) else (c3 ae (a24 == 3) bx (fun ea=>(f ea true))))))))))) else (bif (a24 == 4) then (c2 a0 A M (fun eb ed=>(f eb ed))) else (c2 a0 u z (fun ar ax=>(bif !ax then (f ar ax) else (bif (a24 == 1) then (f ar ax) else (c3 ar (a24 == 3) bx (fun ei=>(f ei true)))))))))))))))) (fun hx bS hz hA hB hC hD hE hF hJ hK hL hM N O U V hN ek=>(bif !ek then (f (⟨#[]⟩:BA) false) else (bif decide (m=(⟨#[]⟩:BA)) then (bif (a24 == 0) then (f a0 true) else (bif (a24 == 0) then (c2 a0 U V (fun en ep=>(f en ep))) else (bif (a24 == 5) then (bif decide (m=(⟨#[]⟩:BA)) then (f (⟨#[]⟩:BA) false) else (c2 a0 N O (fun et ey=>(f et ey)))) else (bif decide (a24<1) then (f (⟨#[]⟩:BA) false) else (bif decide (a24>4) then (f (⟨#[]⟩:BA) false) else (bif (!decide (m=(⟨#[]⟩:BA))) then (bif (!decide (bS=(⟨#[109,101,115,115,97,103,101]⟩:BA))) then (f (⟨#[]⟩:BA) false) else (f (⟨#[]⟩:BA) false)) else (bif (a24 == 4) then (c2 a0 U V (fun e0 e1=>(f e0 e1))) else (c2 a0 N O (fun bb be=>(bif !be then (f bb be) else (bif (a24 == 1) then (f bb be) else (c3 bb (a24 == 3) bx (fun e2=>(f e2 true)))))))))))))) else (bif (a24 == 0) then (c2 a0 U V (fun e3 e4=>(f e3 e4))) else (bif (a24 == 5) then (bif decide (m=(⟨#[]⟩:BA)) then (f (⟨#[]⟩:BA) false) else (c2 a0 N O (fun e5 e'=>(f e5 e')))) else (bif decide (a24<1) then (f (⟨#[]⟩:BA) false) else (bif decide (a24>4) then (f (⟨#[]⟩:BA) false) else (bif (!decide (m=(⟨#[]⟩:BA))) then (bif (!decide (bS=(⟨#[109,101,115,115,97,103,101]⟩:BA))) then (f (⟨#[]⟩:BA) false) else (f (⟨#[]⟩:BA) false)) else (bif (a24 == 4) then (c2 a0 U V (fun fl fo=>(f fl fo))) else (c2 a0 N O (fun bk bs=>(bif !bs then (f bk bs) else (bif (a24 == 1) then (f bk bs) else (c3 bk (a24 == 3) bx (fun fr=>(f fr true)))))))))))))))))
end bd
def bd {R:Type}:bd.F R:=fun a0 a1 a2 a3 a4 a5 Y a7 a8 a9 f j a12 m u z A M N O a20 a21 U V a24 W X=>bd.e cR dJ dd a0 a1 a2 a3 a4 a5 Y a7 a8 a9 f j a12 m u z A M N O a20 a21 U V a24 W X
end Go.Proofs.Ab
