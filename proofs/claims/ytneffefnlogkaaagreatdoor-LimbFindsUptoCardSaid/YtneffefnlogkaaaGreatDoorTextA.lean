/- What each function computes, as a plain Lean function, printed by a program of ours (definitions alone). -/
import Derived.Test.YtneffefnlogkaaaGreatDoorAbC
set_option linter.unusedVariables false
set_option linter.unusedSimpArgs false
set_option maxRecDepth 4000
namespace Go.Proofs.Ab
open Go
abbrev BA:=ByteArray
abbrev LA:=List AV
noncomputable section
abbrev bU.F (R:Type):Type:=BA->BA->(Bool->Option R)->Option R
namespace bU
def e {R:Type} (a0:BA) (a1:BA) (f:Bool->Option R):Option R :=
 (bif (decide ((a0.size:Int)>=(a1.size:Int))) then (bF ((decide ((0:Int)<=(a1.size:Int)))&&(decide ((a1.size:Int)<=(a0.size:Int)))) (f (decide ((a0.extract ((0:Int)).toNat ((a1.size:Int)).toNat)=a1)))) else (f false))
end bU
def bU {R:Type}:bU.F R:=fun a0 a1 f=>bU.e a0 a1 f
abbrev ba.F (R:Type):Type:=BA->BA->(Bool->Option R)->Option R
namespace ba
def e {R:Type} (c1:bU.F R) (a0:BA) (a1:BA) (f:Bool->Option R):Option R :=
 (c1 a0 a1 (fun j=>(f j)))
end ba
def ba {R:Type}:ba.F R:=fun a0 a1 f=>ba.e bU a0 a1 f
abbrev de.F (R:Type):Type:=BA->Int->(Int->Option R)->Option R
def de {R:Type} (a0:BA) (a1:Int) (f:Int->Option R):Option R:=f (Lib.indexByte a0.data.toList a1.toNat.toUInt8)
abbrev ck.F (R:Type):Type:=BA->Int->(Int->Option R)->Option R
namespace ck
def e {R:Type} (c1:de.F R) (a0:BA) (a1:Int) (f:Int->Option R):Option R :=
 (c1 a0 a1 (fun j=>(f j)))
end ck
def ck {R:Type}:ck.F R:=fun a0 a1 f=>ck.e de a0 a1 f
abbrev dZ.F (R:Type):Type:=BA->BA->(Int->Option R)->Option R
def dZ {R:Type} (a0 a1:BA) (f:Int->Option R):Option R:=bF (decide (a0.size<4294967281∨a1=⟨#[46]⟩)) (f (Lib.index a0.data.toList a1.data.toList))
abbrev aL.F (R:Type):Type:=BA->BA->(Int->Option R)->Option R
namespace aL
def e {R:Type} (c1:dZ.F R) (a0:BA) (a1:BA) (f:Int->Option R):Option R :=
 (c1 a0 a1 (fun j=>(f j)))
end aL
def aL {R:Type}:aL.F R:=fun a0 a1 f=>aL.e dZ a0 a1 f
abbrev dK.F (R:Type):Type:=BA->(BA->BA->Option R)->Option R
namespace dK
def e {R:Type} (c1:ba.F R) (c2:aL.F R) (a0:BA) (f:BA->BA->Option R):Option R :=
 (c1 a0 (⟨#[13,10]⟩:BA) (fun m=>(bif m then (bF (decide ((2:Int)<=(a0.size:Int))) (bF ((decide ((2:Int)<=(a0.size:Int)))&&(decide ((a0.size:Int)<=(a0.size:Int)))) (f (a0.extract ((0:Int)).toNat ((2:Int)).toNat) (a0.extract ((2:Int)).toNat ((a0.size:Int)).toNat)))) else (c2 a0 (⟨#[13,10,13,10]⟩:BA) (fun j=>(bif (decide (j>=(0:Int))) then (bF ((decide ((0:Int)<=(IntKind.wrap .i64 (j+4))))&&(decide ((IntKind.wrap .i64 (j+4))<=(a0.size:Int)))) (bF ((decide ((0:Int)<=(IntKind.wrap .i64 (j+4))))&&((decide ((IntKind.wrap .i64 (j+4))<=(a0.size:Int)))&&(decide ((a0.size:Int)<=(a0.size:Int))))) (f (a0.extract ((0:Int)).toNat ((IntKind.wrap .i64 (j+4))).toNat) (a0.extract ((IntKind.wrap .i64 (j+4))).toNat ((a0.size:Int)).toNat)))) else (f a0 (⟨#[]⟩:BA))))))))
end dK
def dK {R:Type}:dK.F R:=fun a0 f=>dK.e ba aL a0 f
abbrev aX.F (R:Type):Type:=Int->(Bool->Option R)->Option R
namespace aX
def e {R:Type} (a0:Int) (f:Bool->Option R):Option R :=
 (bif (a0 == 32) then (f true) else (f (a0 == 9)))
end aX
def aX {R:Type}:aX.F R:=fun a0 f=>aX.e a0 f
abbrev bQ.F (R:Type):Type:=BA->(BA->Bool->Option R)->Option R
namespace bQ
abbrev J5 (R:Type):Type:=BA->Int->BA->Option R
def t2 {R:Type} (m:BA->Int->Option R) (j:J5 R):BA->Int->Option R :=
 fun x0 f=>(bif (decide (f<(x0.size:Int))) then (bF ((decide ((0:Int)<=f))&&(decide (f<(x0.size:Int)))) (bif (decide ((dM x0 f)>(32:Int))) then (bF ((decide ((0:Int)<=f))&&(decide (f<(x0.size:Int)))) (bif (decide ((dM x0 f)<(127:Int))) then (bF ((decide ((0:Int)<=f))&&(decide (f<(x0.size:Int)))) (bif ((dM x0 f) != 58) then (m x0 (IntKind.wrap .i64 (f+1))) else (bF ((decide ((0:Int)<=f))&&(decide (f<=(x0.size:Int)))) (j x0 f (x0.extract ((0:Int)).toNat (f).toNat))))) else (bF ((decide ((0:Int)<=f))&&(decide (f<=(x0.size:Int)))) (j x0 f (x0.extract ((0:Int)).toNat (f).toNat))))) else (bF ((decide ((0:Int)<=f))&&(decide (f<=(x0.size:Int)))) (j x0 f (x0.extract ((0:Int)).toNat (f).toNat))))) else (bF ((decide ((0:Int)<=f))&&(decide (f<=(x0.size:Int)))) (j x0 f (x0.extract ((0:Int)).toNat (f).toNat))))
def t5 {R:Type} (c1:aX.F R) (z:J5 R) (f:BA->Bool->Option R):J5 R :=
 fun x0 j m=>(bif (decide (j<(x0.size:Int))) then (bF ((decide ((0:Int)<=j))&&(decide (j<(x0.size:Int)))) (c1 (dM x0 j) (fun u=>(bif u then (z x0 (IntKind.wrap .i64 (j+1)) m) else (bif (!decide (m=(⟨#[]⟩:BA))) then (bif (decide (j<(x0.size:Int))) then (bF ((decide ((0:Int)<=j))&&(decide (j<(x0.size:Int)))) (f m ((dM x0 j) == 58))) else (f m false)) else (f m false)))))) else (bif (!decide (m=(⟨#[]⟩:BA))) then (bif (decide (j<(x0.size:Int))) then (bF ((decide ((0:Int)<=j))&&(decide (j<(x0.size:Int)))) (f m ((dM x0 j) == 58))) else (f m false)) else (f m false)))
def e {R:Type} (c1:aX.F R) (a0:BA) (f:BA->Int->Option R) (m:J5 R) (j:BA->Bool->Option R):Option R :=
 (f a0 0)
def L5 {R:Type} (c1:aX.F R) (j:BA->Bool->Option R):Nat->J5 R
 | 0=>fun _ _ _=>none
 | f+1=>t5 c1 (L5 c1 j f) j
def L2 {R:Type} (c1:aX.F R) (j:BA->Bool->Option R):Nat->BA->Int->Option R
 | 0=>fun _ _=>none
 | f+1=>t2 (L2 c1 j f) (L5 c1 j f)
end bQ
def bQ {R:Type}:bQ.F R:=fun a0 f=>bQ.e aX a0 (bQ.L2 aX f ag) (bQ.L5 aX f ag) f
abbrev cg.F (R:Type):Type:=BA->(LA->Option R)->Option R
namespace cg
abbrev J3 (R:Type):Type:=BA->Bool->BA->LA->Option R
def t3 {R:Type} (c1:ba.F R) (c2:aL.F R) (c3:aX.F R) (c4:bQ.F R) (N:J3 R) (z:LA->Option R):J3 R :=
 fun x0 O U j=>(bif (!decide (x0=(⟨#[]⟩:BA))) then (c1 x0 (⟨#[13,10]⟩:BA) (fun V=>(bif (!V) then (c2 x0 (⟨#[13,10]⟩:BA) (fun f=>(bif (decide (f>=(0:Int))) then (bF ((decide ((0:Int)<=(IntKind.wrap .i64 (f+2))))&&(decide ((IntKind.wrap .i64 (f+2))<=(x0.size:Int)))) (bF (decide ((0:Int)<(x0.size:Int))) (c3 (dM x0 0) (fun W=>(bif (!W) then (c4 (x0.extract ((0:Int)).toNat ((IntKind.wrap .i64 (f+2))).toNat) (fun A m=>(bF (decide ((j.length+1)*40<=140737488355328)) (bF ((decide ((0:Int)<=(IntKind.wrap .i64 (f+2))))&&((decide ((IntKind.wrap .i64 (f+2))<=(x0.size:Int)))&&(decide ((x0.size:Int)<=(x0.size:Int))))) (N (x0.extract ((IntKind.wrap .i64 (f+2))).toNat ((x0.size:Int)).toNat) m A (j++[AV.agg [AV.str (x0.extract ((0:Int)).toNat ((IntKind.wrap .i64 (f+2))).toNat),AV.str A,AV.bool m,AV.bool m]])))))) else (bF (decide ((j.length+1)*40<=140737488355328)) (bF ((decide ((0:Int)<=(IntKind.wrap .i64 (f+2))))&&((decide ((IntKind.wrap .i64 (f+2))<=(x0.size:Int)))&&(decide ((x0.size:Int)<=(x0.size:Int))))) (N (x0.extract ((IntKind.wrap .i64 (f+2))).toNat ((x0.size:Int)).toNat) O U (j++[AV.agg [AV.str (x0.extract ((0:Int)).toNat ((IntKind.wrap .i64 (f+2))).toNat),AV.str U,AV.bool false,AV.bool O]]))))))))) else (bF ((decide ((0:Int)<=(x0.size:Int)))&&(decide ((x0.size:Int)<=(x0.size:Int)))) (bF (decide ((0:Int)<(x0.size:Int))) (c3 (dM x0 0) (fun X=>(bif (!X) then (c4 (x0.extract ((0:Int)).toNat ((x0.size:Int)).toNat) (fun M u=>(bF (decide ((j.length+1)*40<=140737488355328)) (bF ((decide ((0:Int)<=(x0.size:Int)))&&((decide ((x0.size:Int)<=(x0.size:Int)))&&(decide ((x0.size:Int)<=(x0.size:Int))))) (N (x0.extract ((x0.size:Int)).toNat ((x0.size:Int)).toNat) u M (j++[AV.agg [AV.str (x0.extract ((0:Int)).toNat ((x0.size:Int)).toNat),AV.str M,AV.bool u,AV.bool u]])))))) else (bF (decide ((j.length+1)*40<=140737488355328)) (bF ((decide ((0:Int)<=(x0.size:Int)))&&((decide ((x0.size:Int)<=(x0.size:Int)))&&(decide ((x0.size:Int)<=(x0.size:Int))))) (N (x0.extract ((x0.size:Int)).toNat ((x0.size:Int)).toNat) O U (j++[AV.agg [AV.str (x0.extract ((0:Int)).toNat ((x0.size:Int)).toNat),AV.str U,AV.bool false,AV.bool O]])))))))))))) else (z j)))) else (z j))
def e {R:Type} (c1:ba.F R) (c2:aL.F R) (c3:aX.F R) (c4:bQ.F R) (a0:BA) (f:J3 R) (j:LA->Option R):Option R :=
 (f a0 false (⟨#[]⟩:BA) ([]:LA))
def L3 {R:Type} (c1:ba.F R) (c2:aL.F R) (c3:aX.F R) (c4:bQ.F R) (j:LA->Option R):Nat->J3 R
 | 0=>fun _ _ _ _=>none
 | f+1=>t3 c1 c2 c3 c4 (L3 c1 c2 c3 c4 j f) j
end cg
def cg {R:Type}:cg.F R:=fun a0 f=>cg.e ba aL aX bQ a0 (cg.L3 ba aL aX bQ f ag) f
abbrev cO.F (R:Type):Type:=BA->BA->(Bool->Option R)->Option R
namespace cO
def e {R:Type} (a0:BA) (a1:BA) (f:Bool->Option R):Option R :=
 (bif (decide ((a0.size:Int)>=(a1.size:Int))) then (bF ((decide ((0:Int)<=(IntKind.wrap .i64 ((a0.size:Int)-(a1.size:Int)))))&&((decide ((IntKind.wrap .i64 ((a0.size:Int)-(a1.size:Int)))<=(a0.size:Int)))&&(decide ((a0.size:Int)<=(a0.size:Int))))) (f (decide ((a0.extract ((IntKind.wrap .i64 ((a0.size:Int)-(a1.size:Int)))).toNat ((a0.size:Int)).toNat)=a1)))) else (f false))
end cO
def cO {R:Type}:cO.F R:=fun a0 a1 f=>cO.e a0 a1 f
abbrev cD.F (R:Type):Type:=BA->BA->(BA->Option R)->Option R
namespace cD
def e {R:Type} (c1:cO.F R) (a0:BA) (a1:BA) (f:BA->Option R):Option R :=
 (c1 a0 a1 (fun j=>(bif j then (bF ((decide ((0:Int)<=(IntKind.wrap .i64 ((a0.size:Int)-(a1.size:Int)))))&&(decide ((IntKind.wrap .i64 ((a0.size:Int)-(a1.size:Int)))<=(a0.size:Int)))) (f (a0.extract ((0:Int)).toNat ((IntKind.wrap .i64 ((a0.size:Int)-(a1.size:Int)))).toNat))) else (f a0))))
end cD
def cD {R:Type}:cD.F R:=fun a0 a1 f=>cD.e cO a0 a1 f
abbrev aN.F (R:Type):Type:=BA->BA->(BA->Option R)->Option R
namespace aN
def e {R:Type} (c1:cD.F R) (a0:BA) (a1:BA) (f:BA->Option R):Option R :=
 (c1 a0 a1 (fun j=>(f j)))
end aN
def aN {R:Type}:aN.F R:=fun a0 a1 f=>aN.e cD a0 a1 f
abbrev aB.F (R:Type):Type:=BA->Int->(Int->Option R)->Option R
namespace aB
def e {R:Type} (c1:ck.F R) (a0:BA) (a1:Int) (f:Int->Option R):Option R :=
 (c1 a0 a1 (fun j=>(f j)))
end aB
def aB {R:Type}:aB.F R:=fun a0 a1 f=>aB.e ck a0 a1 f
abbrev b6.F (R:Type):Type:=BA->Int->(BA->Option R)->Option R
namespace b6
def t1 {R:Type} (m:BA->Int->Option R) (f:BA->Option R):BA->Int->Option R :=
 fun x0 j=>(bif (decide ((x0.size:Int)>(0:Int))) then (bF ((decide ((0:Int)<=(IntKind.wrap .i64 ((x0.size:Int)-1))))&&(decide ((IntKind.wrap .i64 ((x0.size:Int)-1))<(x0.size:Int)))) (bif ((dM x0 (IntKind.wrap .i64 ((x0.size:Int)-1))) == j) then (bF ((decide ((0:Int)<=(IntKind.wrap .i64 ((x0.size:Int)-1))))&&(decide ((IntKind.wrap .i64 ((x0.size:Int)-1))<=(x0.size:Int)))) (m (x0.extract ((0:Int)).toNat ((IntKind.wrap .i64 ((x0.size:Int)-1))).toNat) j)) else (f x0))) else (f x0))
def e {R:Type} (a0:BA) (a1:Int) (f:BA->Int->Option R) (j:BA->Option R):Option R :=
 (f a0 a1)
def L1 {R:Type} (j:BA->Option R):Nat->BA->Int->Option R
 | 0=>fun _ _=>none
 | f+1=>t1 (L1 j f) j
end b6
def b6 {R:Type}:b6.F R:=fun a0 a1 f=>b6.e a0 a1 (b6.L1 f ag) f
abbrev cd.F (R:Type):Type:=BA->Int->(BA->Option R)->Option R
namespace cd
def t1 {R:Type} (m:BA->Int->Option R) (f:BA->Option R):BA->Int->Option R :=
 fun x0 j=>(bif (decide ((x0.size:Int)>(0:Int))) then (bF (decide ((0:Int)<(x0.size:Int))) (bif ((dM x0 0) == j) then (bF ((decide ((1:Int)<=(x0.size:Int)))&&(decide ((x0.size:Int)<=(x0.size:Int)))) (m (x0.extract ((1:Int)).toNat ((x0.size:Int)).toNat) j)) else (f x0))) else (f x0))
def e {R:Type} (a0:BA) (a1:Int) (f:BA->Int->Option R) (j:BA->Option R):Option R :=
 (f a0 a1)
def L1 {R:Type} (j:BA->Option R):Nat->BA->Int->Option R
 | 0=>fun _ _=>none
 | f+1=>t1 (L1 j f) j
end cd
def cd {R:Type}:cd.F R:=fun a0 a1 f=>cd.e a0 a1 (cd.L1 f ag) f
abbrev b8.F (R:Type):Type:=BA->(LA->Bool->Option R)->Option R
namespace b8
abbrev J2 (R:Type):Type:=BA->Int->LA->Option R
def t2 {R:Type} (u:J2 R) (j:LA->Bool->Option R):J2 R :=
 fun x0 f m=>(bif (decide (f<(x0.size:Int))) then (bF ((decide ((0:Int)<=f))&&(decide (f<(x0.size:Int)))) (bif (decide ((dM x0 f)>=(128:Int))) then (j m false) else (bF ((decide ((0:Int)<=(dM x0 f)))&&(decide ((dM x0 f)<(256:Int)))) (u x0 (IntKind.wrap .i64 (f+1)) (eA m (dM x0 f) (AV.bool true)))))) else (j m true))
def e {R:Type} (a0:BA) (f:J2 R) (j:LA->Bool->Option R):Option R :=
 (f a0 0 (List.replicate 256 (AV.bool false)))
def L2 {R:Type} (j:LA->Bool->Option R):Nat->J2 R
 | 0=>fun _ _ _=>none
 | f+1=>t2 (L2 j f) j
end b8
def b8 {R:Type}:b8.F R:=fun a0 f=>b8.e a0 (b8.L2 f ag) f
abbrev ao.F (R:Type):Type:=LA->Int->(Bool->Option R)->Option R
namespace ao
def e {R:Type} (a0:LA) (a1:Int) (f:Bool->Option R):Option R :=
 (bF ((decide ((0:Int)<=a1))&&(decide (a1<(256:Int)))) (f (bf a0 a1).b))
end ao
def ao {R:Type}:ao.F R:=fun a0 a1 f=>ao.e a0 a1 f
abbrev bh.F (R:Type):Type:=BA->LA->(BA->Option R)->Option R
namespace bh
def t1 {R:Type} (c1:ao.F R) (u:BA->LA->Option R) (f:BA->Option R):BA->LA->Option R :=
 fun x0 m=>(bif (decide ((x0.size:Int)>(0:Int))) then (bF ((decide ((0:Int)<=(IntKind.wrap .i64 ((x0.size:Int)-1))))&&(decide ((IntKind.wrap .i64 ((x0.size:Int)-1))<(x0.size:Int)))) (c1 m (dM x0 (IntKind.wrap .i64 ((x0.size:Int)-1))) (fun j=>(bif (!j) then (f x0) else (bF ((decide ((0:Int)<=(IntKind.wrap .i64 ((x0.size:Int)-1))))&&(decide ((IntKind.wrap .i64 ((x0.size:Int)-1))<=(x0.size:Int)))) (u (x0.extract ((0:Int)).toNat ((IntKind.wrap .i64 ((x0.size:Int)-1))).toNat) m)))))) else (f x0))
def e {R:Type} (c1:ao.F R) (a0:BA) (a1:LA) (f:BA->LA->Option R) (j:BA->Option R):Option R :=
 (f a0 a1)
def L1 {R:Type} (c1:ao.F R) (j:BA->Option R):Nat->BA->LA->Option R
 | 0=>fun _ _=>none
 | f+1=>t1 c1 (L1 c1 j f) j
end bh
def bh {R:Type}:bh.F R:=fun a0 a1 f=>bh.e ao a0 a1 (bh.L1 ao f ag) f
abbrev bt.F (R:Type):Type:=BA->LA->(BA->Option R)->Option R
namespace bt
def t1 {R:Type} (c1:ao.F R) (u:BA->LA->Option R) (f:BA->Option R):BA->LA->Option R :=
 fun x0 m=>(bif (decide ((x0.size:Int)>(0:Int))) then (bF (decide ((0:Int)<(x0.size:Int))) (c1 m (dM x0 0) (fun j=>(bif (!j) then (f x0) else (bF ((decide ((1:Int)<=(x0.size:Int)))&&(decide ((x0.size:Int)<=(x0.size:Int)))) (u (x0.extract ((1:Int)).toNat ((x0.size:Int)).toNat) m)))))) else (f x0))
def e {R:Type} (c1:ao.F R) (a0:BA) (a1:LA) (f:BA->LA->Option R) (j:BA->Option R):Option R :=
 (f a0 a1)
def L1 {R:Type} (c1:ao.F R) (j:BA->Option R):Nat->BA->LA->Option R
 | 0=>fun _ _=>none
 | f+1=>t1 c1 (L1 c1 j f) j
end bt
def bt {R:Type}:bt.F R:=fun a0 a1 f=>bt.e ao a0 a1 (bt.L1 ao f ag) f
abbrev bL.F (R:Type):Type:=BA->BA->(BA->Option R)->Option R
namespace bL
def e {R:Type} (c1:b6.F R) (c2:cd.F R) (c3:b8.F R) (c4:bh.F R) (c5:bt.F R) (a0:BA) (a1:BA) (f:BA->Option R):Option R :=
 (bif (decide (a0=(⟨#[]⟩:BA))) then (f a0) else (bif (decide (a1=(⟨#[]⟩:BA))) then (f a0) else (bif ((a1.size:Int) == 1) then (bF (decide ((0:Int)<(a1.size:Int))) (bif (decide ((dM a1 0)<(128:Int))) then (bF (decide ((0:Int)<(a1.size:Int))) (c1 a0 (dM a1 0) (fun u=>(bF (decide ((0:Int)<(a1.size:Int))) (c2 u (dM a1 0) (fun z=>(f z))))))) else (c3 a1 (fun j A=>(bif A then (c4 a0 j (fun M=>(c5 M j (fun N=>(f N))))) else none))))) else (c3 a1 (fun m O=>(bif O then (c4 a0 m (fun U=>(c5 U m (fun V=>(f V))))) else none))))))
end bL
def bL {R:Type}:bL.F R:=fun a0 a1 f=>bL.e b6 cd b8 bh bt a0 a1 f
abbrev aZ.F (R:Type):Type:=BA->(LA->Option R)->Option R
namespace aZ
abbrev J4 (R:Type):Type:=Int->Int->LA->LA->LA->Option R
abbrev J8 (R:Type):Type:=Int->Int->LA->LA->BA->BA->Bool->Bool->LA->Option R
abbrev zh (R:Type):Type:=BA->Int->Int->LA->LA->BA->BA->Bool->Bool->LA->Option R
abbrev sM (R:Type):Type:=Int->Int->LA->LA->LA->Option R
abbrev xW (R:Type):Type:=Int->Int->LA->LA->Option R
def t4 {R:Type} (M:J8 R) (A:sM R) (u:xW R):J4 R :=
 fun x0 f m z j=>(bif (decide (f<x0)) then (bF ((decide ((0:Int)<=f))&&(decide (f<(j.length:Int)))) (bif (!((bf j f).fld 3).b) then (bif ((bf j f).fld 2).b then (u (m.length:Int) 0 m z) else (A x0 f m z j)) else (bif ((bf j f).fld 2).b then (bif ((m.length:Int) == 64) then (bif ((bf j f).fld 2).b then (u (m.length:Int) 0 m z) else (A x0 f m z j)) else (M x0 f m z ((bf j f).fld 0).s ((bf j f).fld 1).s ((bf j f).fld 2).b ((bf j f).fld 3).b j)) else (M x0 f m z ((bf j f).fld 0).s ((bf j f).fld 1).s ((bf j f).fld 2).b ((bf j f).fld 3).b j)))) else (u (m.length:Int) 0 m z))
def t8 {R:Type} (c3:aN.F R) (c4:aB.F R) (m:zh R):J8 R :=
 fun x0 O u z A M N U V=>(c3 A (⟨#[13,10]⟩:BA) (fun f=>(bif N then (bF (decide ((u.length+1)*48<=140737488355328)) (bF (decide ((z.length+1)*16<=140737488355328)) (c4 f 58 (fun j=>(bF ((decide ((0:Int)<=(IntKind.wrap .i64 (j+1))))&&((decide ((IntKind.wrap .i64 (j+1))<=(f.size:Int)))&&(decide ((f.size:Int)<=(f.size:Int))))) (m (f.extract ((IntKind.wrap .i64 (j+1))).toNat ((f.size:Int)).toNat) x0 O (u++[AV.agg [AV.str M,AV.str (⟨#[]⟩:BA),AV.str (⟨#[]⟩:BA)]]) (z++[AV.str (⟨#[]⟩:BA)]) A M N U V)))))) else (m f x0 O u z A M N U V))))
def t13 {R:Type} (u:sM R):zh R :=
 fun x0 z A f m j N O U M=>(bF ((decide ((0:Int)<=(IntKind.wrap .i64 ((f.length:Int)-1))))&&(decide ((IntKind.wrap .i64 ((f.length:Int)-1))<(f.length:Int)))) (bF (decide (((bf f (IntKind.wrap .i64 ((f.length:Int)-1))).fld 2).s.size+j.size<=9223372036854775807)) (bF ((decide ((0:Int)<=(IntKind.wrap .i64 ((f.length:Int)-1))))&&(decide ((IntKind.wrap .i64 ((f.length:Int)-1))<(f.length:Int)))) (bF ((decide ((0:Int)<=(IntKind.wrap .i64 (((eA f (IntKind.wrap .i64 ((f.length:Int)-1)) (AV.agg [AV.str ((bf f (IntKind.wrap .i64 ((f.length:Int)-1))).fld 0).s,AV.str ((bf f (IntKind.wrap .i64 ((f.length:Int)-1))).fld 1).s,AV.str (((bf f (IntKind.wrap .i64 ((f.length:Int)-1))).fld 2).s++j)])).length:Int)-1))))&&(decide ((IntKind.wrap .i64 (((eA f (IntKind.wrap .i64 ((f.length:Int)-1)) (AV.agg [AV.str ((bf f (IntKind.wrap .i64 ((f.length:Int)-1))).fld 0).s,AV.str ((bf f (IntKind.wrap .i64 ((f.length:Int)-1))).fld 1).s,AV.str (((bf f (IntKind.wrap .i64 ((f.length:Int)-1))).fld 2).s++j)])).length:Int)-1))<(m.length:Int)))) (bF (decide ((bf m (IntKind.wrap .i64 (((eA f (IntKind.wrap .i64 ((f.length:Int)-1)) (AV.agg [AV.str ((bf f (IntKind.wrap .i64 ((f.length:Int)-1))).fld 0).s,AV.str ((bf f (IntKind.wrap .i64 ((f.length:Int)-1))).fld 1).s,AV.str (((bf f (IntKind.wrap .i64 ((f.length:Int)-1))).fld 2).s++j)])).length:Int)-1))).s.size+x0.size<=9223372036854775807)) (bF ((decide ((0:Int)<=(IntKind.wrap .i64 (((eA f (IntKind.wrap .i64 ((f.length:Int)-1)) (AV.agg [AV.str ((bf f (IntKind.wrap .i64 ((f.length:Int)-1))).fld 0).s,AV.str ((bf f (IntKind.wrap .i64 ((f.length:Int)-1))).fld 1).s,AV.str (((bf f (IntKind.wrap .i64 ((f.length:Int)-1))).fld 2).s++j)])).length:Int)-1))))&&(decide ((IntKind.wrap .i64 (((eA f (IntKind.wrap .i64 ((f.length:Int)-1)) (AV.agg [AV.str ((bf f (IntKind.wrap .i64 ((f.length:Int)-1))).fld 0).s,AV.str ((bf f (IntKind.wrap .i64 ((f.length:Int)-1))).fld 1).s,AV.str (((bf f (IntKind.wrap .i64 ((f.length:Int)-1))).fld 2).s++j)])).length:Int)-1))<(m.length:Int)))) (u z A (eA f (IntKind.wrap .i64 ((f.length:Int)-1)) (AV.agg [AV.str ((bf f (IntKind.wrap .i64 ((f.length:Int)-1))).fld 0).s,AV.str ((bf f (IntKind.wrap .i64 ((f.length:Int)-1))).fld 1).s,AV.str (((bf f (IntKind.wrap .i64 ((f.length:Int)-1))).fld 2).s++j)])) (eA m (IntKind.wrap .i64 (((eA f (IntKind.wrap .i64 ((f.length:Int)-1)) (AV.agg [AV.str ((bf f (IntKind.wrap .i64 ((f.length:Int)-1))).fld 0).s,AV.str ((bf f (IntKind.wrap .i64 ((f.length:Int)-1))).fld 1).s,AV.str (((bf f (IntKind.wrap .i64 ((f.length:Int)-1))).fld 2).s++j)])).length:Int)-1)) (AV.str ((bf m (IntKind.wrap .i64 (((eA f (IntKind.wrap .i64 ((f.length:Int)-1)) (AV.agg [AV.str ((bf f (IntKind.wrap .i64 ((f.length:Int)-1))).fld 0).s,AV.str ((bf f (IntKind.wrap .i64 ((f.length:Int)-1))).fld 1).s,AV.str (((bf f (IntKind.wrap .i64 ((f.length:Int)-1))).fld 2).s++j)])).length:Int)-1))).s++x0))) M)))))))
def t15 {R:Type} (f:J4 R):sM R :=
 fun x0 j m u z=>(f x0 (IntKind.wrap .i64 (j+1)) m u z)
def t17 {R:Type} (c2:bL.F R) (m:xW R) (u:LA->Option R):xW R :=
 fun x0 f j z=>(bif (decide (f<x0)) then (bF ((decide ((0:Int)<=f))&&(decide (f<(z.length:Int)))) (c2 (bf z f).s (⟨#[32,9]⟩:BA) (fun A=>(bF ((decide ((0:Int)<=f))&&(decide (f<(j.length:Int)))) (m x0 (IntKind.wrap .i64 (f+1)) (eA j f (AV.agg [AV.str ((bf j f).fld 0).s,AV.str A,AV.str ((bf j f).fld 2).s])) z))))) else (u j))
def e {R:Type} (c1:cg.F R) (c2:bL.F R) (c3:aN.F R) (c4:aB.F R) (a0:BA) (j:J4 R) (M:J8 R) (m:zh R) (u:sM R) (z:xW R) (A:LA->Option R):Option R :=
 (c1 a0 (fun f=>(j (f.length:Int) 0 ([]:LA) ([]:LA) f)))
def zj {R:Type} (c1:cg.F R) (c2:bL.F R) (c3:aN.F R) (c4:aB.F R) (j:LA->Option R):Nat->xW R
 | 0=>fun _ _ _ _=>none
 | f+1=>t17 c2 (zj c1 c2 c3 c4 j f) j
def M4 {R:Type} (c1:cg.F R) (c2:bL.F R) (c3:aN.F R) (c4:aB.F R) (j:LA->Option R):Nat->(J4 R) × (J8 R) × (zh R) × (sM R)
 | 0=>(fun _ _ _ _ _=>none,fun _ _ _ _ _ _ _ _ _=>none,fun _ _ _ _ _ _ _ _ _ _=>none,fun _ _ _ _ _=>none)
 | f+1=>(t4 ((M4 c1 c2 c3 c4 j f).2.1) ((M4 c1 c2 c3 c4 j f).2.2.2) (zj c1 c2 c3 c4 j f),
  t8 c3 c4 ((M4 c1 c2 c3 c4 j f).2.2.1),
  t13 ((M4 c1 c2 c3 c4 j f).2.2.2),
  t15 ((M4 c1 c2 c3 c4 j f).1))
def L4 {R:Type} (c1:cg.F R) (c2:bL.F R) (c3:aN.F R) (c4:aB.F R) (j:LA->Option R) (f:Nat):J4 R:=(M4 c1 c2 c3 c4 j f).1
def L8 {R:Type} (c1:cg.F R) (c2:bL.F R) (c3:aN.F R) (c4:aB.F R) (j:LA->Option R) (f:Nat):J8 R:=(M4 c1 c2 c3 c4 j f).2.1
def wq {R:Type} (c1:cg.F R) (c2:bL.F R) (c3:aN.F R) (c4:aB.F R) (j:LA->Option R) (f:Nat):zh R:=(M4 c1 c2 c3 c4 j f).2.2.1
def n9 {R:Type} (c1:cg.F R) (c2:bL.F R) (c3:aN.F R) (c4:aB.F R) (j:LA->Option R) (f:Nat):sM R:=(M4 c1 c2 c3 c4 j f).2.2.2
end aZ
def aZ {R:Type}:aZ.F R:=fun a0 f=>aZ.e cg bL aN aB a0 (aZ.L4 cg bL aN aB f ag) (aZ.L8 cg bL aN aB f ag) (aZ.wq cg bL aN aB f ag) (aZ.n9 cg bL aN aB f ag) (aZ.zj cg bL aN aB f ag) f
abbrev bJ.F (R:Type):Type:=BA->(BA->Option R)->Option R
namespace bJ
abbrev J3 (R:Type):Type:=Int->Int->LA->Option R
def t3 {R:Type} (m:J3 R) (u:BA->Option R):J3 R :=
 fun x0 f j=>(bif (decide (f<x0)) then (bF ((decide ((0:Int)<=f))&&(decide (f<(j.length:Int)))) (bif (decide ((bf j f).i>=(65:Int))) then (bif (decide ((bf j f).i<=(90:Int))) then (bF ((decide ((0:Int)<=f))&&(decide (f<(j.length:Int)))) (m x0 (IntKind.wrap .i64 (f+1)) (eA j f (AV.int (IntKind.wrap .u8 ((IntKind.wrap .u8 ((bf j f).i+97))-65)))))) else (m x0 (IntKind.wrap .i64 (f+1)) j)) else (m x0 (IntKind.wrap .i64 (f+1)) j))) else (u (fE j)))
def e {R:Type} (a0:BA) (f:J3 R) (j:BA->Option R):Option R :=
 (bF (decide ((a0.size+0)*1<=140737488355328)) (f ((fv a0).length:Int) 0 (fv a0)))
def L3 {R:Type} (j:BA->Option R):Nat->J3 R
 | 0=>fun _ _ _=>none
 | f+1=>t3 (L3 j f) j
end bJ
def bJ {R:Type}:bJ.F R:=fun a0 f=>bJ.e a0 (bJ.L3 f ag) f
abbrev dD.F (R:Type):Type:=BA->BA->(Bool->Option R)->Option R
namespace dD
def e {R:Type} (c1:bJ.F R) (a0:BA) (a1:BA) (f:Bool->Option R):Option R :=
 (c1 a0 (fun j=>(c1 a1 (fun m=>(f (decide (j=m)))))))
end dD
def dD {R:Type}:dD.F R:=fun a0 a1 f=>dD.e bJ a0 a1 f
abbrev db.F (R:Type):Type:=LA->BA->(Bool->BA->Option R)->Option R
namespace db
abbrev J2 (R:Type):Type:=BA->LA->Int->Int->Bool->BA->Option R
def t2 {R:Type} (c1:dD.F R) (A:J2 R) (j:Bool->BA->Option R):J2 R :=
 fun x0 m z f M N=>(bif (decide (f<z)) then (bF ((decide ((0:Int)<=f))&&(decide (f<(m.length:Int)))) (c1 ((bf m f).fld 0).s x0 (fun u=>(bif u then (j true ((bf m f).fld 1).s) else (A x0 m z (IntKind.wrap .i64 (f+1)) M N))))) else (j false (⟨#[]⟩:BA)))
def e {R:Type} (c1:dD.F R) (a0:LA) (a1:BA) (f:J2 R) (j:Bool->BA->Option R):Option R :=
 (f a1 a0 (a0.length:Int) 0 false (⟨#[]⟩:BA))
def L2 {R:Type} (c1:dD.F R) (j:Bool->BA->Option R):Nat->J2 R
 | 0=>fun _ _ _ _ _ _=>none
 | f+1=>t2 c1 (L2 c1 j f) j
end db
def db {R:Type}:db.F R:=fun a0 a1 f=>db.e dD a0 a1 (db.L2 dD f ag) f
abbrev bB.Q0 (R:Type):Type:=Int->BA->Int->Option R
abbrev bB.F (R:Type):Type:=BA->Int->bB.Q0 R->Option R
namespace bB
def e {R:Type} (a0:BA) (a1:Int) (f:Q0 R):Option R :=
 (bif (decide (a1<(a0.size:Int))) then (bF ((decide ((0:Int)<=a1))&&(decide (a1<(a0.size:Int)))) (f (dM a0 a1) a0 a1)) else (f 0 a0 a1))
end bB
def bB {R:Type}:bB.F R:=fun a0 a1 f=>bB.e a0 a1 f
abbrev aM.F (R:Type):Type:=BA->Int->(BA->Int->Option R)->Option R
namespace aM
abbrev J1 (R:Type):Type:=Int->BA->Int->Option R
def t1 {R:Type} (u:J1 R) (m:BA->Int->Option R):J1 R :=
 fun x0 f j=>(bif (decide (j<(f.size:Int))) then (bF ((decide ((0:Int)<=j))&&(decide (j<(f.size:Int)))) (bif ((dM f j) == 92) then (u x0 f (IntKind.wrap .i64 ((IntKind.wrap .i64 (j+1))+1))) else (bif ((dM f j) == 40) then (u (IntKind.wrap .i64 (x0+1)) f (IntKind.wrap .i64 (j+1))) else (bif ((dM f j) == 41) then (bif ((IntKind.wrap .i64 (x0-1)) == 0) then (m f (IntKind.wrap .i64 (j+1))) else (u (IntKind.wrap .i64 (x0-1)) f (IntKind.wrap .i64 (j+1)))) else (u x0 f (IntKind.wrap .i64 (j+1))))))) else (m f (f.size:Int)))
def e {R:Type} (a0:BA) (a1:Int) (f:J1 R) (j:BA->Int->Option R):Option R :=
 (f 0 a0 a1)
def L1 {R:Type} (j:BA->Int->Option R):Nat->J1 R
 | 0=>fun _ _ _=>none
 | f+1=>t1 (L1 j f) j
end aM
def aM {R:Type}:aM.F R:=fun a0 a1 f=>aM.e a0 a1 (aM.L1 f ag) f
abbrev aj.F (R:Type):Type:=BA->Int->(BA->Int->Option R)->Option R
namespace aj
def t0 {R:Type} (c1:bB.F R) (c2:aM.F R) (A:BA->Int->Option R) (M:BA->Int->Option R):BA->Int->Option R :=
 fun x0 N=>(c1 x0 N (fun m j f=>(bif (m == 32) then (A j (IntKind.wrap .i64 (f+1))) else (bif (m == 9) then (A j (IntKind.wrap .i64 (f+1))) else (bif (m == 40) then (c2 j f (fun u z=>(A u z))) else (M j f))))))
def e {R:Type} (c1:bB.F R) (c2:aM.F R) (a0:BA) (a1:Int) (f:BA->Int->Option R) (j:BA->Int->Option R):Option R :=
 (f a0 a1)
def L0 {R:Type} (c1:bB.F R) (c2:aM.F R) (j:BA->Int->Option R):Nat->BA->Int->Option R
 | 0=>fun _ _=>none
 | f+1=>t0 c1 c2 (L0 c1 c2 j f) j
end aj
def aj {R:Type}:aj.F R:=fun a0 a1 f=>aj.e bB aM a0 a1 (aj.L0 bB aM f ag) f
abbrev bW.F (R:Type):Type:=Int->(Bool->Option R)->Option R
namespace bW
def e {R:Type} (a0:Int) (f:Bool->Option R):Option R :=
 (bif (decide ((0:Int)<=a0)) then (bif (decide (a0<(55296:Int))) then (f true) else (bif (decide ((57343:Int)<a0)) then (bif (decide (a0<=(1114111:Int))) then (f true) else (f false)) else (f false))) else (bif (decide ((57343:Int)<a0)) then (bif (decide (a0<=(1114111:Int))) then (f true) else (f false)) else (f false)))
end bW
def bW {R:Type}:bW.F R:=fun a0 f=>bW.e a0 f
abbrev cv.F (R:Type):Type:=Int->(Int->Option R)->Option R
namespace cv
def e {R:Type} (a0:Int) (f:Int->Option R):Option R :=
 (f (IntKind.wrap .i64 (Int.tdiv (IntKind.wrap .i64 (a0+16)) 8)))
end cv
def cv {R:Type}:cv.F R:=fun a0 f=>cv.e a0 f
abbrev cy.F (R:Type):Type:=BA->Int->(Int->Option R)->Option R
namespace cy
abbrev J5 (R:Type):Type:=BA->Int->BA->Int->Int->Int->Option R
abbrev EM (R:Type):Type:=BA->Int->BA->Int->Int->Int->Int->Option R
def t5 {R:Type} (c1:aB.F R) (z:EM R) (A:Int->Option R):J5 R :=
 fun x0 M u j f N=>(bif (decide (f<(x0.size:Int))) then (bF ((decide ((0:Int)<=f))&&(decide (f<(x0.size:Int)))) (bF ((decide ((0:Int)<=j))&&(decide (j<(u.size:Int)))) (bif ((dM x0 f) != (dM u j)) then (bF ((decide ((0:Int)<=(IntKind.wrap .i64 (f+1))))&&((decide ((IntKind.wrap .i64 (f+1))<=(x0.size:Int)))&&(decide ((x0.size:Int)<=(x0.size:Int))))) (bF ((decide ((0:Int)<=j))&&(decide (j<(u.size:Int)))) (c1 (x0.extract ((IntKind.wrap .i64 (f+1))).toNat ((x0.size:Int)).toNat) (dM u j) (fun m=>(bif (decide (m<(0:Int))) then (A (-1)) else (z x0 M u j (IntKind.wrap .i64 (f+(IntKind.wrap .i64 (m+1)))) N 1)))))) else (z x0 M u j f N 1)))) else (A (-1)))
def t12 {R:Type} (c3:cv.F R) (U:J5 R) (M:EM R) (N:Int->Option R):EM R :=
 fun x0 O u j f A m=>(bif (decide (m<(u.size:Int))) then (bF ((decide ((0:Int)<=(IntKind.wrap .i64 (f-m))))&&(decide ((IntKind.wrap .i64 (f-m))<(x0.size:Int)))) (bF ((decide ((0:Int)<=(IntKind.wrap .i64 (j-m))))&&(decide ((IntKind.wrap .i64 (j-m))<(u.size:Int)))) (bif ((dM x0 (IntKind.wrap .i64 (f-m))) != (dM u (IntKind.wrap .i64 (j-m)))) then (c3 (IntKind.wrap .i64 (f+1)) (fun z=>(bif (decide ((IntKind.wrap .i64 (A+1))>z)) then (bif (decide ((IntKind.wrap .i64 (f+1))<(x0.size:Int))) then (bF ((decide ((0:Int)<=(IntKind.wrap .i64 ((IntKind.wrap .i64 (f+1))-j))))&&((decide ((IntKind.wrap .i64 ((IntKind.wrap .i64 (f+1))-j))<=(x0.size:Int)))&&(decide ((x0.size:Int)<=(x0.size:Int))))) none) else (U x0 O u j (IntKind.wrap .i64 (f+1)) (IntKind.wrap .i64 (A+1)))) else (U x0 O u j (IntKind.wrap .i64 (f+1)) (IntKind.wrap .i64 (A+1)))))) else (M x0 O u j f A (IntKind.wrap .i64 (m+1)))))) else (N (IntKind.wrap .i64 (f-j))))
def t38 {R:Type} (m:BA->Nat->Option R) (f:Int->Option R):BA->Nat->Option R :=
 fun x0 j=>(bif (decide (j<x0.size)) then (bif (((Utf8.decode x0 j).1:Int) == 65533) then (f (j:Int)) else (m x0 (j+(Utf8.decode x0 j).2))) else (f (-1)))
def e {R:Type} (c1:aB.F R) (c2:bW.F R) (c3:cv.F R) (a0:BA) (a1:Int) (A:J5 R) (M:EM R) (j:BA->Nat->Option R) (f:Int->Option R):Option R :=
 (bif (decide ((0:Int)<=a1)) then (bif (decide (a1<(128:Int))) then (c1 a0 (IntKind.wrap .u8 a1) (fun m=>(f m))) else (bif (a1 == 65533) then (j a0 0) else (c2 a1 (fun u=>(bif (!u) then (f (-1)) else (A a0 a1 (Utf8.encode a1) (IntKind.wrap .i64 (((Utf8.encode a1).size:Int)-1)) (IntKind.wrap .i64 (((Utf8.encode a1).size:Int)-1)) 0)))))) else (bif (a1 == 65533) then (j a0 0) else (c2 a1 (fun z=>(bif (!z) then (f (-1)) else (A a0 a1 (Utf8.encode a1) (IntKind.wrap .i64 (((Utf8.encode a1).size:Int)-1)) (IntKind.wrap .i64 (((Utf8.encode a1).size:Int)-1)) 0))))))
def M5 {R:Type} (c1:aB.F R) (c2:bW.F R) (c3:cv.F R) (j:Int->Option R):Nat->(J5 R) × (EM R)
 | 0=>(fun _ _ _ _ _ _=>none,fun _ _ _ _ _ _ _=>none)
 | f+1=>(t5 c1 ((M5 c1 c2 c3 j f).2) j,
  t12 c3 ((M5 c1 c2 c3 j f).1) ((M5 c1 c2 c3 j f).2) j)
def L5 {R:Type} (c1:aB.F R) (c2:bW.F R) (c3:cv.F R) (j:Int->Option R) (f:Nat):J5 R:=(M5 c1 c2 c3 j f).1
def He {R:Type} (c1:aB.F R) (c2:bW.F R) (c3:cv.F R) (j:Int->Option R) (f:Nat):EM R:=(M5 c1 c2 c3 j f).2
def Hf {R:Type} (c1:aB.F R) (c2:bW.F R) (c3:cv.F R) (j:Int->Option R):Nat->BA->Nat->Option R
 | 0=>fun _ _=>none
 | f+1=>t38 (Hf c1 c2 c3 j f) j
end cy
def cy {R:Type}:cy.F R:=fun a0 a1 f=>cy.e aB bW cv a0 a1 (cy.L5 aB bW cv f ag) (cy.He aB bW cv f ag) (cy.Hf aB bW cv f ag) f
abbrev bg.F (R:Type):Type:=BA->Int->(Bool->Option R)->Option R
namespace bg
def e {R:Type} (c1:cy.F R) (a0:BA) (a1:Int) (j:Bool->Option R):Option R :=
 (c1 a0 a1 (fun f=>(j (decide (f>=(0:Int))))))
end bg
def bg {R:Type}:bg.F R:=fun a0 a1 f=>bg.e cy a0 a1 f
abbrev aw.Q0 (R:Type):Type:=BA->BA->Int->Option R
abbrev aw.F (R:Type):Type:=BA->Int->aw.Q0 R->Option R
namespace aw
abbrev J2 (R:Type):Type:=Int->BA->Int->Option R
def t2 {R:Type} (c1:bg.F R) (z:J2 R) (m:Q0 R):J2 R :=
 fun x0 j f=>(bif (decide (f<(j.size:Int))) then (bF ((decide ((0:Int)<=f))&&(decide (f<(j.size:Int)))) (bif (decide ((dM j f)>(32:Int))) then (bF ((decide ((0:Int)<=f))&&(decide (f<(j.size:Int)))) (bif (decide ((dM j f)<(127:Int))) then (bF ((decide ((0:Int)<=f))&&(decide (f<(j.size:Int)))) (c1 (⟨#[40,41,60,62,64,44,59,58,92,34,47,91,93,63,61]⟩:BA) (IntKind.wrap .i32 (dM j f)) (fun u=>(bif (!u) then (z x0 j (IntKind.wrap .i64 (f+1))) else (bF ((decide ((0:Int)<=x0))&&((decide (x0<=f))&&(decide (f<=(j.size:Int))))) (m (j.extract (x0).toNat (f).toNat) j f)))))) else (bF ((decide ((0:Int)<=x0))&&((decide (x0<=f))&&(decide (f<=(j.size:Int))))) (m (j.extract (x0).toNat (f).toNat) j f)))) else (bF ((decide ((0:Int)<=x0))&&((decide (x0<=f))&&(decide (f<=(j.size:Int))))) (m (j.extract (x0).toNat (f).toNat) j f)))) else (bF ((decide ((0:Int)<=x0))&&((decide (x0<=f))&&(decide (f<=(j.size:Int))))) (m (j.extract (x0).toNat (f).toNat) j f)))
def e {R:Type} (c1:bg.F R) (a0:BA) (a1:Int) (f:J2 R) (j:Q0 R):Option R :=
 (f a1 a0 a1)
def L2 {R:Type} (c1:bg.F R) (j:Q0 R):Nat->J2 R
 | 0=>fun _ _ _=>none
 | f+1=>t2 c1 (L2 c1 j f) j
end aw
def aw {R:Type}:aw.F R:=fun a0 a1 f=>aw.e bg a0 a1 (aw.L2 bg f ag) f
abbrev an.Q0 (R:Type):Type:=Bool->BA->Int->Option R
abbrev an.F (R:Type):Type:=BA->Int->Int->an.Q0 R->Option R
namespace an
def e {R:Type} (a0:BA) (a1:Int) (a2:Int) (f:Q0 R):Option R :=
 (bif (decide (a1<(a0.size:Int))) then (bF ((decide ((0:Int)<=a1))&&(decide (a1<(a0.size:Int)))) (bif ((dM a0 a1) == a2) then (f true a0 (IntKind.wrap .i64 (a1+1))) else (f false a0 a1))) else (f false a0 a1))
end an
def an {R:Type}:an.F R:=fun a0 a1 a2 f=>an.e a0 a1 a2 f
abbrev bd.Q0 (R:Type):Type:=BA->BA->Bool->BA->Int->Option R
abbrev bd.F (R:Type):Type:=BA->Int->bd.Q0 R->Option R
namespace bd
def e {R:Type} (c1:aj.F R) (c2:aw.F R) (c3:bJ.F R) (c4:an.F R) (a0:BA) (a1:Int) (M:Q0 R):Option R :=
 (c1 a0 a1 (fun N O=>(c2 N O (fun U V W=>(c3 U (fun f=>(c1 V W (fun j m=>(bif (decide (f=(⟨#[]⟩:BA))) then (M (⟨#[]⟩:BA) (⟨#[]⟩:BA) false j m) else (c4 j m 47 (fun X u z=>(bif (!X) then (M (⟨#[]⟩:BA) (⟨#[]⟩:BA) false u z) else (c1 u z (fun Y ad=>(c2 Y ad (fun ae ap ar=>(c3 ae (fun A=>(M f A (!decide (A=(⟨#[]⟩:BA))) ap ar)))))))))))))))))))
end bd
def bd {R:Type}:bd.F R:=fun a0 a1 f=>bd.e aj aw bJ an a0 a1 f
abbrev aW.F (R:Type):Type:=LA->(BA->Option R)->Option R
namespace aW
def e {R:Type} (a0:LA) (f:BA->Option R):Option R :=
 (bF (decide ((a0.length:Int)=(a0.length:Int))) (bF (List.all a0 oO) (f (fE a0))))
end aW
def aW {R:Type}:aW.F R:=fun a0 f=>aW.e a0 f
abbrev cT.F (R:Type):Type:=LA->(LA->Option R)->Option R
def cT {R:Type} (a0:LA) (f:LA->Option R):Option R:=f a0
abbrev aQ.F (R:Type):Type:=LA->Int->(LA->Option R)->Option R
namespace aQ
def e {R:Type} (c1:cT.F R) (a0:LA) (a1:Int) (j:LA->Option R):Option R :=
 (c1 a0 (fun f=>(bF (decide ((f.length+1)*1<=140737488355328)) (j (f++[AV.int a1])))))
end aQ
def aQ {R:Type}:aQ.F R:=fun a0 a1 f=>aQ.e cT a0 a1 f
abbrev bC.Q0 (R:Type):Type:=BA->Bool->BA->Int->Option R
abbrev bC.F (R:Type):Type:=BA->Int->bC.Q0 R->Option R
namespace bC
abbrev J5 (R:Type):Type:=BA->Int->LA->Option R
def t5 {R:Type} (c3:aW.F R) (c4:aQ.F R) (N:J5 R) (j:Q0 R):J5 R :=
 fun x0 f M=>(bif (decide (f<(x0.size:Int))) then (bF ((decide ((0:Int)<=f))&&(decide (f<(x0.size:Int)))) (bif ((dM x0 f) == 34) then (c3 M (fun m=>(j m true x0 (IntKind.wrap .i64 (f+1))))) else (bif ((dM x0 f) == 92) then (bif (decide ((IntKind.wrap .i64 (f+1))<(x0.size:Int))) then (bF ((decide ((0:Int)<=(IntKind.wrap .i64 (f+1))))&&(decide ((IntKind.wrap .i64 (f+1))<(x0.size:Int)))) (c4 M (dM x0 (IntKind.wrap .i64 (f+1))) (fun u=>(N x0 (IntKind.wrap .i64 ((IntKind.wrap .i64 (f+1))+1)) u)))) else (c4 M (dM x0 f) (fun z=>(N x0 (IntKind.wrap .i64 (f+1)) z)))) else (c4 M (dM x0 f) (fun A=>(N x0 (IntKind.wrap .i64 (f+1)) A)))))) else (j (⟨#[]⟩:BA) false x0 f))
def e {R:Type} (c1:an.F R) (c2:aw.F R) (c3:aW.F R) (c4:aQ.F R) (a0:BA) (a1:Int) (N:J5 R) (M:Q0 R):Option R :=
 (c1 a0 a1 34 (fun u f j=>(bif (!u) then (c2 f j (fun m z A=>(M m (!decide (m=(⟨#[]⟩:BA))) z A))) else (N f j ([]:LA)))))
def L5 {R:Type} (c1:an.F R) (c2:aw.F R) (c3:aW.F R) (c4:aQ.F R) (j:Q0 R):Nat->J5 R
 | 0=>fun _ _ _=>none
 | f+1=>t5 c3 c4 (L5 c1 c2 c3 c4 j f) j
end bC
def bC {R:Type}:bC.F R:=fun a0 a1 f=>bC.e an aw aW aQ a0 a1 (bC.L5 an aw aW aQ f ag) f
abbrev aV.Q0 (R:Type):Type:=BA->BA->Bool->BA->Int->Option R
abbrev aV.F (R:Type):Type:=BA->Int->aV.Q0 R->Option R
namespace aV
def e {R:Type} (c1:aj.F R) (c2:an.F R) (c3:aw.F R) (c4:bJ.F R) (c5:bC.F R) (a0:BA) (a1:Int) (f:Q0 R):Option R :=
 (c1 a0 a1 (fun O U=>(c2 O U 59 (fun V j m=>(bif (!V) then (f (⟨#[]⟩:BA) (⟨#[]⟩:BA) false j m) else (c1 j m (fun W X=>(c3 W X (fun Y ad ae=>(c4 Y (fun u=>(c1 ad ae (fun z A=>(bif (decide (u=(⟨#[]⟩:BA))) then (f (⟨#[]⟩:BA) (⟨#[]⟩:BA) false z A) else (c2 z A 61 (fun ap M N=>(bif (!ap) then (f (⟨#[]⟩:BA) (⟨#[]⟩:BA) false M N) else (c1 M N (fun ar ax=>(c5 ar ax (fun a6 a7 a8 bb=>(f u a6 a7 a8 bb))))))))))))))))))))))
end aV
def aV {R:Type}:aV.F R:=fun a0 a1 f=>aV.e aj an aw bJ bC a0 a1 f
abbrev aJ.Q0 (R:Type):Type:=LA->BA->Int->Option R
abbrev aJ.F (R:Type):Type:=BA->Int->aJ.Q0 R->Option R
namespace aJ
abbrev J3 (R:Type):Type:=BA->Int->LA->LA->Option R
def t3 {R:Type} (c1:aV.F R) (O:J3 R) (A:Q0 R):J3 R :=
 fun x0 U u z=>(bif (decide ((u.length:Int)<(12:Int))) then (c1 x0 U (fun f M N j m=>(bif (!N) then (A u j m) else (bif ((iB (.str) (AV.str f) (gz (.str) (AV.str f) (AV.int (IntKind.wrap .i64 ((iB (.str) (AV.str f) z).i+1))) z)).i == 1) then (bF (decide ((u.length+1)*32<=140737488355328)) (O j m (u++[AV.agg [AV.str f,AV.str M]]) (gz (.str) (AV.str f) (AV.int (IntKind.wrap .i64 ((iB (.str) (AV.str f) z).i+1))) z))) else (O j m u (gz (.str) (AV.str f) (AV.int (IntKind.wrap .i64 ((iB (.str) (AV.str f) z).i+1))) z)))))) else (A u x0 U))
def e {R:Type} (c1:aV.F R) (a0:BA) (a1:Int) (f:J3 R) (j:Q0 R):Option R :=
 (f a0 a1 ([]:LA) ([]:LA))
def L3 {R:Type} (c1:aV.F R) (j:Q0 R):Nat->J3 R
 | 0=>fun _ _ _ _=>none
 | f+1=>t3 c1 (L3 c1 j f) j
end aJ
def aJ {R:Type}:aJ.F R:=fun a0 a1 f=>aJ.e aV a0 a1 (aJ.L3 aV f ag) f
abbrev az.Q0 (R:Type):Type:=Bool->BA->BA->Int->Option R
abbrev az.F (R:Type):Type:=BA->Int->az.Q0 R->Option R
namespace az
def e {R:Type} (c1:aj.F R) (c2:aw.F R) (c3:bJ.F R) (a0:BA) (a1:Int) (M:Q0 R):Option R :=
 (c1 a0 a1 (fun j m=>(c2 j m (fun u z A=>(c3 u (fun f=>(M (!decide (f=(⟨#[]⟩:BA))) f z A)))))))
end az
def az {R:Type}:az.F R:=fun a0 a1 f=>az.e aj aw bJ a0 a1 f
abbrev di.F (R:Type):Type:=LA->BA->(Bool->BA->Option R)->Option R
namespace di
def e {R:Type} (c1:db.F R) (c2:bL.F R) (a0:LA) (a1:BA) (u:Bool->BA->Option R):Option R :=
 (c1 a0 a1 (fun f j=>(c2 j (⟨#[32,9]⟩:BA) (fun m=>(u f m)))))
end di
def di {R:Type}:di.F R:=fun a0 a1 f=>di.e db bL a0 a1 f
abbrev aH.Q0 (R:Type):Type:=LA->BA->Int->Option R
abbrev aH.F (R:Type):Type:=BA->Int->aH.Q0 R->Option R
namespace aH
abbrev J2 (R:Type):Type:=BA->Int->LA->Option R
abbrev J8 (R:Type):Type:=LA->BA->Int->Option R
def t2 {R:Type} (c1:az.F R) (c2:aj.F R) (c3:an.F R) (X:J2 R) (V:J8 R):J2 R :=
 fun x0 W A=>(bif (decide ((A.length:Int)<(12:Int))) then (c1 x0 W (fun M f j m=>(bif (!M) then (V A j m) else (bF (decide ((A.length+1)*16<=140737488355328)) (c2 j m (fun N O=>(c3 N O 44 (fun U u z=>(bif (!U) then (V (A++[AV.str f]) u z) else (X u z (A++[AV.str f]))))))))))) else (V A x0 W))
def t8 {R:Type} (f:Q0 R):J8 R :=
 fun x0 j m=>(f x0 j m)
def e {R:Type} (c1:az.F R) (c2:aj.F R) (c3:an.F R) (a0:BA) (a1:Int) (f:J2 R) (m:J8 R) (j:Q0 R):Option R :=
 (f a0 a1 ([]:LA))
def L8 {R:Type} (c1:az.F R) (c2:aj.F R) (c3:an.F R) (j:Q0 R):Nat->J8 R
 | 0=>fun _ _ _=>none
 | f+1=>t8 j
def L2 {R:Type} (c1:az.F R) (c2:aj.F R) (c3:an.F R) (j:Q0 R):Nat->J2 R
 | 0=>fun _ _ _=>none
 | f+1=>t2 c1 c2 c3 (L2 c1 c2 c3 j f) (L8 c1 c2 c3 j f)
end aH
def aH {R:Type}:aH.F R:=fun a0 a1 f=>aH.e az aj an a0 a1 (aH.L2 az aj an f ag) (aH.L8 az aj an f ag) f
abbrev dn.Q0 (R:Type):Type:=BA->BA->BA->LA->Bool->BA->Bool->BA->Bool->BA->Bool->BA->LA->LA->Bool->BA->Int->Int->Int->Int->Int->Option R
abbrev dn.F (R:Type):Type:=BA->BA->BA->Bool->BA->Bool->BA->Bool->BA->Bool->BA->Bool->BA->Int->Int->Int->Int->Int->LA->Bool->dn.Q0 R->Option R
namespace dn
abbrev sM (R:Type):Type:=LA->BA->BA->BA->LA->Bool->BA->Bool->BA->Bool->BA->Bool->BA->LA->LA->Bool->BA->Int->Int->Int->Int->Int->Option R
def t15 {R:Type} (c1:db.F R) (c6:aH.F R) (m:Q0 R):sM R :=
 fun x0 x1 x2 x3 x4 x5 x6 x7 x8 x9 u z A M ar N O U V W X Y=>(c1 x0 (⟨#[67,111,110,116,101,110,116,45,76,97,110,103,117,97,103,101]⟩:BA) (fun ad f=>(c6 f 0 (fun j ae ap=>(m x1 x2 x3 x4 x5 x6 x7 x8 x9 u z A M j N O U V W X Y)))))
def e {R:Type} (c1:db.F R) (c2:bd.F R) (c3:aJ.F R) (c4:az.F R) (c5:di.F R) (c6:aH.F R) (a0:BA) (a1:BA) (a2:BA) (a3:Bool) (a4:BA) (a5:Bool) (a6:BA) (a7:Bool) (a8:BA) (a9:Bool) (ho:BA) (hp:Bool) (a12:BA) (j:Int) (m:Int) (u:Int) (z:Int) (A:Int) (f:LA) (e':Bool) (M:sM R) (hq:Q0 R):Option R :=
 (c1 f (⟨#[67,111,110,116,101,110,116,45,84,121,112,101]⟩:BA) (fun hr fl=>(c2 fl 0 (fun V W dg dr d'=>(bif dg then (c3 dr d' (fun X fo fr=>(c1 f (⟨#[67,111,110,116,101,110,116,45,84,114,97,110,115,102,101,114,45,69,110,99,111,100,105,110,103]⟩:BA) (fun fs ea=>(c4 ea 0 (fun Y ad fu fz=>(c5 f (⟨#[67,111,110,116,101,110,116,45,73,100]⟩:BA) (fun ae ap=>(c5 f (⟨#[67,111,110,116,101,110,116,45,68,101,115,99,114,105,112,116,105,111,110]⟩:BA) (fun ar ax=>(c5 f (⟨#[67,111,110,116,101,110,116,45,76,111,99,97,116,105,111,110]⟩:BA) (fun bb be=>(c1 f (⟨#[67,111,110,116,101,110,116,45,68,105,115,112,111,115,105,116,105,111,110]⟩:BA) (fun gb eb=>(c4 eb 0 (fun N bk ed ei=>(bif N then (c3 ed ei (fun ek gr g'=>(M f a0 V W X ae ap ar ax Y ad N bk ek ([]:LA) bb be j m u z A))) else (M f a0 V W X ae ap ar ax Y ad N bk ([]:LA) ([]:LA) bb be j m u z A)))))))))))))))))) else (bif e' then (c1 f (⟨#[67,111,110,116,101,110,116,45,84,114,97,110,115,102,101,114,45,69,110,99,111,100,105,110,103]⟩:BA) (fun ha en=>(c4 en 0 (fun bs bx hb hc=>(c5 f (⟨#[67,111,110,116,101,110,116,45,73,100]⟩:BA) (fun bP bS=>(c5 f (⟨#[67,111,110,116,101,110,116,45,68,101,115,99,114,105,112,116,105,111,110]⟩:BA) (fun bV b0=>(c5 f (⟨#[67,111,110,116,101,110,116,45,76,111,99,97,116,105,111,110]⟩:BA) (fun b1 b2=>(c1 f (⟨#[67,111,110,116,101,110,116,45,68,105,115,112,111,115,105,116,105,111,110]⟩:BA) (fun hd ep=>(c4 ep 0 (fun O b3 et ey=>(bif O then (c3 et ey (fun e0 hf hg=>(M f a0 (⟨#[109,101,115,115,97,103,101]⟩:BA) (⟨#[114,102,99,56,50,50]⟩:BA) ([]:LA) bP bS bV b0 bs bx O b3 e0 ([]:LA) b1 b2 j m u z A))) else (M f a0 (⟨#[109,101,115,115,97,103,101]⟩:BA) (⟨#[114,102,99,56,50,50]⟩:BA) ([]:LA) bP bS bV b0 bs bx O b3 ([]:LA) ([]:LA) b1 b2 j m u z A)))))))))))))))) else (c1 f (⟨#[67,111,110,116,101,110,116,45,84,114,97,110,115,102,101,114,45,69,110,99,111,100,105,110,103]⟩:BA) (fun hh e1=>(c4 e1 0 (fun b4 b5 hi hj=>(c5 f (⟨#[67,111,110,116,101,110,116,45,73,100]⟩:BA) (fun b' ca=>(c5 f (⟨#[67,111,110,116,101,110,116,45,68,101,115,99,114,105,112,116,105,111,110]⟩:BA) (fun cl cp=>(c5 f (⟨#[67,111,110,116,101,110,116,45,76,111,99,97,116,105,111,110]⟩:BA) (fun ct c0=>(c1 f (⟨#[67,111,110,116,101,110,116,45,68,105,115,112,111,115,105,116,105,111,110]⟩:BA) (fun hk e2=>(c4 e2 0 (fun U c' e3 e4=>(bif U then (c3 e3 e4 (fun e5 hl hn=>(M f a0 (⟨#[116,101,120,116]⟩:BA) (⟨#[112,108,97,105,110]⟩:BA) [AV.agg [AV.str (⟨#[99,104,97,114,115,101,116]⟩:BA),AV.str (⟨#[117,115,45,97,115,99,105,105]⟩:BA)]] b' ca cl cp b4 b5 U c' e5 ([]:LA) ct c0 j m u z A))) else (M f a0 (⟨#[116,101,120,116]⟩:BA) (⟨#[112,108,97,105,110]⟩:BA) [AV.agg [AV.str (⟨#[99,104,97,114,115,101,116]⟩:BA),AV.str (⟨#[117,115,45,97,115,99,105,105]⟩:BA)]] b' ca cl cp b4 b5 U c' ([]:LA) ([]:LA) ct c0 j m u z A))))))))))))))))))))))
def n9 {R:Type} (c1:db.F R) (c2:bd.F R) (c3:aJ.F R) (c4:az.F R) (c5:di.F R) (c6:aH.F R) (j:Q0 R):Nat->sM R
 | 0=>fun _ _ _ _ _ _ _ _ _ _ _ _ _ _ _ _ _ _ _ _ _ _=>none
 | f+1=>t15 c1 c6 j
end dn
def dn {R:Type}:dn.F R:=fun a0 a1 a2 a3 a4 a5 V W X a9 j m a12 u z A M N O U f=>dn.e db bd aJ az di aH a0 a1 a2 a3 a4 a5 V W X a9 j m a12 u z A M N O U (dn.n9 db bd aJ az di aH f ag) f
abbrev aD.Q0 (R:Type):Type:=BA->BA->BA->LA->Bool->BA->Bool->BA->Bool->BA->Bool->BA->LA->LA->Bool->BA->Int->Int->Int->Int->Int->BA->Int->Option R
abbrev aD.F (R:Type):Type:=BA->Int->Int->Int->Bool->aD.Q0 R->Option R
namespace aD
def e {R:Type} (c1:dK.F R) (c2:aZ.F R) (c3:dn.F R) (a0:BA) (a1:Int) (a2:Int) (a3:Int) (a4:Bool) (a8:Q0 R):Option R :=
 (bF ((decide ((0:Int)<=a2))&&((decide (a2<=a3))&&(decide (a3<=(a0.size:Int))))) (c1 (a0.extract (a2).toNat (a3).toNat) (fun r6 r7=>(c2 r6 (fun bb=>(c3 (⟨#[]⟩:BA) (⟨#[]⟩:BA) (⟨#[]⟩:BA) false (⟨#[]⟩:BA) false (⟨#[]⟩:BA) false (⟨#[]⟩:BA) false (⟨#[]⟩:BA) false (⟨#[]⟩:BA) a2 (IntKind.wrap .i64 (a2+(r6.size:Int))) (IntKind.wrap .i64 (a2+(r6.size:Int))) a3 0 bb a4 (fun f j m u z A M N O U V W X Y ad ae ap ar ax a6 a7=>(a8 f j m u z A M N O U V W X Y ad ae ap ar ax a6 a7 a0 a1))))))))
end aD
def aD {R:Type}:aD.F R:=fun a0 a1 a2 a3 a4 f=>aD.e dK aZ dn a0 a1 a2 a3 a4 f
abbrev bO.Q0 (R:Type):Type:=Bool->BA->BA->BA->LA->Bool->BA->Bool->BA->Bool->BA->Bool->BA->LA->LA->Bool->BA->Int->Int->Int->Int->Int->Option R
abbrev bO.F (R:Type):Type:=BA->BA->BA->LA->Bool->BA->Bool->BA->Bool->BA->Bool->BA->LA->LA->Bool->BA->Int->Int->Int->Int->Int->bO.Q0 R->Option R
namespace bO
def e {R:Type} (a0:BA) (a1:BA) (a2:BA) (a3:LA) (a4:Bool) (a5:BA) (V:Bool) (W:BA) (X:Bool) (a9:BA) (f:Bool) (j:BA) (a12:LA) (m:LA) (u:Bool) (z:BA) (A:Int) (M:Int) (N:Int) (O:Int) (a20:Int) (U:Q0 R):Option R :=
 (bif (decide (a1=(⟨#[109,101,115,115,97,103,101]⟩:BA))) then (U (decide (a2=(⟨#[114,102,99,56,50,50]⟩:BA))) a0 a1 a2 a3 a4 a5 V W X a9 f j a12 m u z A M N O a20) else (U false a0 a1 a2 a3 a4 a5 V W X a9 f j a12 m u z A M N O a20))
end bO
def bO {R:Type}:bO.F R:=fun a0 a1 a2 a3 a4 a5 V W X a9 f j a12 m u z A M N O a20 U=>bO.e a0 a1 a2 a3 a4 a5 V W X a9 f j a12 m u z A M N O a20 U
abbrev cM.F (R:Type):Type:=BA->BA->(BA->Bool->Option R)->Option R
namespace cM
def e {R:Type} (c1:bU.F R) (a0:BA) (a1:BA) (f:BA->Bool->Option R):Option R :=
 (c1 a0 a1 (fun j=>(bif (!j) then (f a0 false) else (bF ((decide ((0:Int)<=(a1.size:Int)))&&((decide ((a1.size:Int)<=(a0.size:Int)))&&(decide ((a0.size:Int)<=(a0.size:Int))))) (f (a0.extract ((a1.size:Int)).toNat ((a0.size:Int)).toNat) true)))))
end cM
def cM {R:Type}:cM.F R:=fun a0 a1 f=>cM.e bU a0 a1 f
abbrev cH.F (R:Type):Type:=BA->BA->(BA->Bool->Option R)->Option R
namespace cH
def e {R:Type} (c1:cM.F R) (a0:BA) (a1:BA) (m:BA->Bool->Option R):Option R :=
 (c1 a0 a1 (fun f j=>(m f j)))
end cH
def cH {R:Type}:cH.F R:=fun a0 a1 f=>cH.e cM a0 a1 f
abbrev cQ.F (R:Type):Type:=BA->BA->(Bool->Bool->Option R)->Option R
namespace cQ
def e {R:Type} (c1:cH.F R) (c2:bL.F R) (a0:BA) (a1:BA) (f:Bool->Bool->Option R):Option R :=
 (bF (decide ((⟨#[45,45]⟩:BA).size+a1.size<=9223372036854775807)) (c1 a0 ((⟨#[45,45]⟩:BA)++a1) (fun j m=>(bif (!m) then (f false false) else (c1 j (⟨#[45,45]⟩:BA) (fun u z=>(c2 u (⟨#[32,9]⟩:BA) (fun A=>(f (decide (A=(⟨#[]⟩:BA))) z)))))))))
end cQ
def cQ {R:Type}:cQ.F R:=fun a0 a1 f=>cQ.e cH bL a0 a1 f
abbrev bA.Q0 (R:Type):Type:=LA->BA->Int->Option R
abbrev bA.F (R:Type):Type:=BA->Int->Int->Int->BA->bA.Q0 R->Option R
namespace bA
abbrev J4 (R:Type):Type:=BA->Int->Int->BA->Int->Int->Int->LA->Option R
def t4 {R:Type} (c1:aL.F R) (c2:cQ.F R) (V:J4 R) (M:Q0 R):J4 R :=
 fun x0 A m u N W j z=>(bif (decide (m<=j)) then (bF ((decide ((0:Int)<=m))&&((decide (m<=j))&&(decide (j<=(u.size:Int))))) (c1 (u.extract (m).toNat (j).toNat) (⟨#[13,10]⟩:BA) (fun f=>(bif (decide (f>=(0:Int))) then (bF ((decide ((0:Int)<=m))&&((decide (m<=(IntKind.wrap .i64 (m+f))))&&(decide ((IntKind.wrap .i64 (m+f))<=(u.size:Int))))) (c2 (u.extract (m).toNat ((IntKind.wrap .i64 (m+f))).toNat) x0 (fun X O=>(bif X then (bif (decide (A>=(0:Int))) then (bF (decide ((z.length+1)*16<=140737488355328)) (bif O then (M (z++[AV.agg [AV.int A,AV.int (max2 A (IntKind.wrap .i64 (m-2)))]]) u N) else (V x0 (min2 (IntKind.wrap .i64 ((IntKind.wrap .i64 (m+f))+2)) j) (IntKind.wrap .i64 ((IntKind.wrap .i64 (m+f))+2)) u N W j (z++[AV.agg [AV.int A,AV.int (max2 A (IntKind.wrap .i64 (m-2)))]])))) else (bif O then (M z u N) else (V x0 (min2 (IntKind.wrap .i64 ((IntKind.wrap .i64 (m+f))+2)) j) (IntKind.wrap .i64 ((IntKind.wrap .i64 (m+f))+2)) u N W j z))) else (V x0 A (IntKind.wrap .i64 ((IntKind.wrap .i64 (m+f))+2)) u N W j z))))) else (bF ((decide ((0:Int)<=m))&&((decide (m<=j))&&(decide (j<=(u.size:Int))))) (c2 (u.extract (m).toNat (j).toNat) x0 (fun Y U=>(bif Y then (bif (decide (A>=(0:Int))) then (bF (decide ((z.length+1)*16<=140737488355328)) (bif U then (M (z++[AV.agg [AV.int A,AV.int (max2 A (IntKind.wrap .i64 (m-2)))]]) u N) else (V x0 (min2 (IntKind.wrap .i64 (j+1)) j) (IntKind.wrap .i64 (j+1)) u N W j (z++[AV.agg [AV.int A,AV.int (max2 A (IntKind.wrap .i64 (m-2)))]])))) else (bif U then (M z u N) else (V x0 (min2 (IntKind.wrap .i64 (j+1)) j) (IntKind.wrap .i64 (j+1)) u N W j z))) else (V x0 A (IntKind.wrap .i64 (j+1)) u N W j z))))))))) else (bif (decide (A>=(0:Int))) then (bF (decide ((z.length+1)*16<=140737488355328)) (M (z++[AV.agg [AV.int A,AV.int j]]) u N)) else (M z u N)))
def e {R:Type} (c1:aL.F R) (c2:cQ.F R) (a0:BA) (a1:Int) (a2:Int) (a3:Int) (a4:BA) (f:J4 R) (j:Q0 R):Option R :=
 (f a4 (-1) a2 a0 a1 a2 a3 ([]:LA))
def L4 {R:Type} (c1:aL.F R) (c2:cQ.F R) (j:Q0 R):Nat->J4 R
 | 0=>fun _ _ _ _ _ _ _ _=>none
 | f+1=>t4 c1 c2 (L4 c1 c2 j f) j
end bA
def bA {R:Type}:bA.F R:=fun a0 a1 a2 a3 a4 f=>bA.e aL cQ a0 a1 a2 a3 a4 (bA.L4 aL cQ f ag) f
abbrev aE.Q0 (R:Type):Type:=BA->Int->BA->BA->BA->LA->Bool->BA->Bool->BA->Bool->BA->Bool->BA->LA->LA->Bool->BA->Int->Int->Int->Int->Int->Option R
abbrev aE.Q1 (R:Type):Type:=LA->BA->Int->BA->BA->BA->LA->Bool->BA->Bool->BA->Bool->BA->Bool->BA->LA->LA->Bool->BA->Int->Int->Int->Int->Int->Option R
abbrev aE.F (R:Type):Type:=BA->Int->BA->BA->BA->LA->Bool->BA->Bool->BA->Bool->BA->Bool->BA->LA->LA->Bool->BA->Int->Int->Int->Int->Int->aE.Q0 R->aE.Q1 R->Option R
namespace aE
abbrev J8 (R:Type):Type:=LA->Int->Int->BA->BA->BA->LA->Bool->BA->Bool->BA->Bool->BA->Bool->BA->LA->LA->Bool->BA->Int->Int->Int->Int->Int->BA->Int->Option R
def t8 {R:Type} (c2:bA.F R) (j8:J8 R) (a1:Q0 R) (a6:Q1 R):J8 R :=
 fun x0 x1 x2 x3 x4 x5 x6 x7 x8 x9 m u z A M N O U V W X f j Y ad ae=>(bif (decide (x2<x1)) then (bF ((decide ((0:Int)<=x2))&&(decide (x2<(x0.length:Int)))) (bif (decide (((bf x0 x2).fld 0).s=(⟨#[98,111,117,110,100,97,114,121]⟩:BA))) then (bif (decide ((((bf x0 x2).fld 1).s.size:Int)>=(1:Int))) then (bif (decide ((((bf x0 x2).fld 1).s.size:Int)<=(70:Int))) then (c2 ad ae f j ((bf x0 x2).fld 1).s (fun ap ar ax=>(a6 ap ar ax x3 x4 x5 x6 x7 x8 x9 m u z A M N O U V W X f j Y))) else (j8 x0 x1 (IntKind.wrap .i64 (x2+1)) x3 x4 x5 x6 x7 x8 x9 m u z A M N O U V W X f j Y ad ae)) else (j8 x0 x1 (IntKind.wrap .i64 (x2+1)) x3 x4 x5 x6 x7 x8 x9 m u z A M N O U V W X f j Y ad ae)) else (j8 x0 x1 (IntKind.wrap .i64 (x2+1)) x3 x4 x5 x6 x7 x8 x9 m u z A M N O U V W X f j Y ad ae))) else (a1 ad ae x3 x4 x5 x6 x7 x8 x9 m u z A M N O U V W X f j Y))
def e {R:Type} (c1:bO.F R) (c2:bA.F R) (a0:BA) (a1:Int) (a2:BA) (a3:BA) (a4:BA) (a5:LA) (a6:Bool) (a7:BA) (a8:Bool) (a9:BA) (bP:Bool) (bS:BA) (a12:Bool) (bV:BA) (b0:LA) (b1:LA) (b2:Bool) (b3:BA) (b4:Int) (b5:Int) (a20:Int) (a21:Int) (b':Int) (j8:J8 R) (bs:Q0 R) (bk:Q1 R):Option R :=
 (c1 a2 a3 a4 a5 a6 a7 a8 a9 bP bS a12 bV b0 b1 b2 b3 b4 b5 a20 a21 b' (fun bx M z N u O U V W A m X Y ad ae ap ar ax bb f j be=>(bif bx then (bif A then (bif (!decide (m=(⟨#[55,98,105,116]⟩:BA))) then (bif (!decide (m=(⟨#[56,98,105,116]⟩:BA))) then (bif (!decide (m=(⟨#[98,105,110,97,114,121]⟩:BA))) then (bs a0 a1 M z N u O U V W A m X Y ad ae ap ar ax bb f j be) else (bk [AV.agg [AV.int f,AV.int j]] a0 a1 M z N u O U V W A m X Y ad ae ap ar ax bb f j be)) else (bk [AV.agg [AV.int f,AV.int j]] a0 a1 M z N u O U V W A m X Y ad ae ap ar ax bb f j be)) else (bk [AV.agg [AV.int f,AV.int j]] a0 a1 M z N u O U V W A m X Y ad ae ap ar ax bb f j be)) else (bk [AV.agg [AV.int f,AV.int j]] a0 a1 M z N u O U V W A m X Y ad ae ap ar ax bb f j be)) else (bif (!decide (z=(⟨#[109,117,108,116,105,112,97,114,116]⟩:BA))) then (bs a0 a1 M z N u O U V W A m X Y ad ae ap ar ax bb f j be) else (j8 u (u.length:Int) 0 M z N u O U V W A m X Y ad ae ap ar ax bb f j be a0 a1)))))
def L8 {R:Type} (c1:bO.F R) (c2:bA.F R) (j:Q0 R) (m:Q1 R):Nat->J8 R
 | 0=>fun _ _ _ _ _ _ _ _ _ _ _ _ _ _ _ _ _ _ _ _ _ _ _ _ _ _=>none
 | f+1=>t8 c2 (L8 c1 c2 j m f) j m
end aE
def aE {R:Type}:aE.F R:=fun a0 a1 a2 a3 a4 a5 X Y a8 a9 m u a12 z A M N O U V a20 a21 W f j=>aE.e bO bA a0 a1 a2 a3 a4 a5 X Y a8 a9 m u a12 z A M N O U V a20 a21 W (aE.L8 bO bA f j ag) f j
abbrev ef.F (R:Type):Type:=Int->(BA->Option R)->Option R
namespace ef
def e {R:Type} (a0:Int) (f:BA->Option R):Option R :=
 (bif (decide (a0<(10:Int))) then (bF ((decide ((0:Int)<=a0))&&((decide (a0<=(IntKind.wrap .i64 (a0+1))))&&(decide ((IntKind.wrap .i64 (a0+1))<=((⟨#[48,49,50,51,52,53,54,55,56,57,97,98,99,100,101,102,103,104,105,106,107,108,109,110,111,112,113,114,115,116,117,118,119,120,121,122]⟩:BA).size:Int))))) (f ((⟨#[48,49,50,51,52,53,54,55,56,57,97,98,99,100,101,102,103,104,105,106,107,108,109,110,111,112,113,114,115,116,117,118,119,120,121,122]⟩:BA).extract (a0).toNat ((IntKind.wrap .i64 (a0+1))).toNat))) else (bF ((decide ((0:Int)<=(IntKind.wrap .i64 (a0*2))))&&((decide ((IntKind.wrap .i64 (a0*2))<=(IntKind.wrap .i64 ((IntKind.wrap .i64 (a0*2))+2))))&&(decide ((IntKind.wrap .i64 ((IntKind.wrap .i64 (a0*2))+2))<=((⟨#[48,48,48,49,48,50,48,51,48,52,48,53,48,54,48,55,48,56,48,57,49,48,49,49,49,50,49,51,49,52,49,53,49,54,49,55,49,56,49,57,50,48,50,49,50,50,50,51,50,52,50,53,50,54,50,55,50,56,50,57,51,48,51,49,51,50,51,51,51,52,51,53,51,54,51,55,51,56,51,57,52,48,52,49,52,50,52,51,52,52,52,53,52,54,52,55,52,56,52,57,53,48,53,49,53,50,53,51,53,52,53,53,53,54,53,55,53,56,53,57,54,48,54,49,54,50,54,51,54,52,54,53,54,54,54,55,54,56,54,57,55,48,55,49,55,50,55,51,55,52,55,53,55,54,55,55,55,56,55,57,56,48,56,49,56,50,56,51,56,52,56,53,56,54,56,55,56,56,56,57,57,48,57,49,57,50,57,51,57,52,57,53,57,54,57,55,57,56,57,57]⟩:BA).size:Int))))) (f ((⟨#[48,48,48,49,48,50,48,51,48,52,48,53,48,54,48,55,48,56,48,57,49,48,49,49,49,50,49,51,49,52,49,53,49,54,49,55,49,56,49,57,50,48,50,49,50,50,50,51,50,52,50,53,50,54,50,55,50,56,50,57,51,48,51,49,51,50,51,51,51,52,51,53,51,54,51,55,51,56,51,57,52,48,52,49,52,50,52,51,52,52,52,53,52,54,52,55,52,56,52,57,53,48,53,49,53,50,53,51,53,52,53,53,53,54,53,55,53,56,53,57,54,48,54,49,54,50,54,51,54,52,54,53,54,54,54,55,54,56,54,57,55,48,55,49,55,50,55,51,55,52,55,53,55,54,55,55,55,56,55,57,56,48,56,49,56,50,56,51,56,52,56,53,56,54,56,55,56,56,56,57,57,48,57,49,57,50,57,51,57,52,57,53,57,54,57,55,57,56,57,57]⟩:BA).extract ((IntKind.wrap .i64 (a0*2))).toNat ((IntKind.wrap .i64 ((IntKind.wrap .i64 (a0*2))+2))).toNat))))
end ef
def ef {R:Type}:ef.F R:=fun a0 f=>ef.e a0 f
abbrev dc.F (R:Type):Type:=Int->Int->(BA->Option R)->Option R
namespace dc
def e {R:Type} (c1:ef.F R) (a0:Int) (a1:Int) (j:BA->Option R):Option R :=
 (bif (a1 == 10) then (bif (decide ((0:Int)<=a0)) then (bif (decide (a0<(100:Int))) then (c1 a0 (fun f=>(j f))) else (bif (decide (a0<(0:Int))) then none else none)) else (bif (decide (a0<(0:Int))) then none else none)) else none)
end dc
def dc {R:Type}:dc.F R:=fun a0 a1 f=>dc.e ef a0 a1 f
abbrev eK.F (R:Type):Type:=Int->(BA->Option R)->Option R
namespace eK
def e {R:Type} (c1:dc.F R) (a0:Int) (j:BA->Option R):Option R :=
 (c1 a0 10 (fun f=>(j f)))
end eK
def eK {R:Type}:eK.F R:=fun a0 f=>eK.e dc a0 f
abbrev cB.F (R:Type):Type:=Int->(BA->Option R)->Option R
namespace cB
def e {R:Type} (c1:eK.F R) (a0:Int) (j:BA->Option R):Option R :=
 (c1 a0 (fun f=>(j f)))
end cB
def cB {R:Type}:cB.F R:=fun a0 f=>cB.e eK a0 f
abbrev aU.F (R:Type):Type:=BA->(Int->Option R)->Option R
namespace aU
abbrev J2 (R:Type):Type:=Int->BA->Nat->Option R
def t2 {R:Type} (u:J2 R) (f:Int->Option R):J2 R :=
 fun x0 j m=>(bif (decide (m<j.size)) then (u (IntKind.wrap .i64 (x0+1)) j (m+(Utf8.decode j m).2)) else (f x0))
def e {R:Type} (a0:BA) (f:J2 R) (j:Int->Option R):Option R :=
 (f 0 a0 0)
def L2 {R:Type} (j:Int->Option R):Nat->J2 R
 | 0=>fun _ _ _=>none
 | f+1=>t2 (L2 j f) j
end aU
def aU {R:Type}:aU.F R:=fun a0 f=>aU.e a0 (aU.L2 f ag) f
abbrev bN.F (R:Type):Type:=BA->BA->(Int->Option R)->Option R
namespace bN
abbrev J6 (R:Type):Type:=BA->BA->Int->Option R
def t6 {R:Type} (c2:aL.F R) (z:J6 R) (m:Int->Option R):J6 R :=
 fun x0 j u=>(c2 x0 j (fun f=>(bif (f == (-1)) then (m u) else (bF ((decide ((0:Int)<=(IntKind.wrap .i64 (f+(j.size:Int)))))&&((decide ((IntKind.wrap .i64 (f+(j.size:Int)))<=(x0.size:Int)))&&(decide ((x0.size:Int)<=(x0.size:Int))))) (z (x0.extract ((IntKind.wrap .i64 (f+(j.size:Int)))).toNat ((x0.size:Int)).toNat) j (IntKind.wrap .i64 (u+1)))))))
def e {R:Type} (c1:aU.F R) (c2:aL.F R) (a0:BA) (a1:BA) (m:J6 R) (j:Int->Option R):Option R :=
 (bif ((a1.size:Int) == 0) then (c1 a0 (fun f=>(j (IntKind.wrap .i64 (f+1))))) else (bif ((a1.size:Int) == 1) then (bF (decide ((0:Int)<(a1.size:Int))) none) else (m a0 a1 0)))
def L6 {R:Type} (c1:aU.F R) (c2:aL.F R) (j:Int->Option R):Nat->J6 R
 | 0=>fun _ _ _=>none
 | f+1=>t6 c2 (L6 c1 c2 j f) j
end bN
def bN {R:Type}:bN.F R:=fun a0 a1 f=>bN.e aU aL a0 a1 (bN.L6 aU aL f ag) f
abbrev aA.Q0 (R:Type):Type:=Bool->BA->BA->BA->LA->Bool->BA->Bool->BA->Bool->BA->Bool->BA->LA->LA->Bool->BA->Int->Int->Int->Int->Int->LA->Option R
abbrev aA.F (R:Type):Type:=BA->BA->BA->LA->Bool->BA->Bool->BA->Bool->BA->Bool->BA->LA->LA->Bool->BA->Int->Int->Int->Int->Int->LA->aA.Q0 R->Option R
namespace aA
def e {R:Type} (a0:BA) (a1:BA) (a2:BA) (a3:LA) (a4:Bool) (a5:BA) (V:Bool) (W:BA) (X:Bool) (a9:BA) (f:Bool) (j:BA) (a12:LA) (m:LA) (u:Bool) (z:BA) (A:Int) (M:Int) (N:Int) (O:Int) (a20:Int) (a21:LA) (U:Q0 R):Option R :=
 (bif (decide (a1=(⟨#[109,101,115,115,97,103,101]⟩:BA))) then (U (decide (a2=(⟨#[114,102,99,56,50,50]⟩:BA))) a0 a1 a2 a3 a4 a5 V W X a9 f j a12 m u z A M N O a20 a21) else (U false a0 a1 a2 a3 a4 a5 V W X a9 f j a12 m u z A M N O a20 a21))
end aA
def aA {R:Type}:aA.F R:=fun a0 a1 a2 a3 a4 a5 V W X a9 f j a12 m u z A M N O a20 a21 U=>aA.e a0 a1 a2 a3 a4 a5 V W X a9 f j a12 m u z A M N O a20 a21 U
abbrev aC.Q0 (R:Type):Type:=Bool->BA->BA->BA->LA->Bool->BA->Bool->BA->Bool->BA->Bool->BA->LA->LA->Bool->BA->Int->Int->Int->Int->Int->LA->Option R
abbrev aC.F (R:Type):Type:=BA->BA->BA->LA->Bool->BA->Bool->BA->Bool->BA->Bool->BA->LA->LA->Bool->BA->Int->Int->Int->Int->Int->LA->aC.Q0 R->Option R
namespace aC
def e {R:Type} (a0:BA) (a1:BA) (a2:BA) (a3:LA) (a4:Bool) (a5:BA) (V:Bool) (W:BA) (X:Bool) (a9:BA) (f:Bool) (j:BA) (a12:LA) (m:LA) (u:Bool) (z:BA) (A:Int) (M:Int) (N:Int) (O:Int) (a20:Int) (a21:LA) (U:Q0 R):Option R :=
 (bif (decide (a1=(⟨#[109,101,115,115,97,103,101]⟩:BA))) then (U (decide (a2=(⟨#[114,102,99,56,50,50]⟩:BA))) a0 a1 a2 a3 a4 a5 V W X a9 f j a12 m u z A M N O a20 a21) else (U false a0 a1 a2 a3 a4 a5 V W X a9 f j a12 m u z A M N O a20 a21))
end aC
def aC {R:Type}:aC.F R:=fun a0 a1 a2 a3 a4 a5 V W X a9 f j a12 m u z A M N O a20 a21 U=>aC.e a0 a1 a2 a3 a4 a5 V W X a9 f j a12 m u z A M N O a20 a21 U
abbrev bX.Q0 (R:Type):Type:=BA->BA->BA->BA->LA->Bool->BA->Bool->BA->Bool->BA->Bool->BA->LA->LA->Bool->BA->Int->Int->Int->Int->Int->LA->Option R
abbrev bX.F (R:Type):Type:=BA->BA->BA->LA->Bool->BA->Bool->BA->Bool->BA->Bool->BA->LA->LA->Bool->BA->Int->Int->Int->Int->Int->LA->Int->Bool->Int->bX.Q0 R->Option R
namespace bX
def e {R:Type} (c1:aC.F R) (c2:cB.F R) (a0:BA) (a1:BA) (a2:BA) (a3:LA) (a4:Bool) (a5:BA) (a6:Bool) (a7:BA) (a8:Bool) (a9:BA) (b3:Bool) (b4:BA) (a12:LA) (b5:LA) (b':Bool) (ca:BA) (cl:Int) (cp:Int) (ct:Int) (c0:Int) (a20:Int) (a21:LA) (c':Int) (dg:Bool) (a24:Int) (bs:Q0 R):Option R :=
 (c1 a0 a1 a2 a3 a4 a5 a6 a7 a8 a9 b3 b4 a12 b5 b' ca cl cp ct c0 a20 a21 (fun bV f j m u z A M N O U V W X Y ad ae ap ar ax bb be bk=>(bif bV then (bif (decide (c'>(0:Int))) then (bif (!dg) then (bs f f j m u z A M N O U V W X Y ad ae ap ar ax bb be bk) else (bif (decide (f=(⟨#[]⟩:BA))) then (c2 a24 (fun b0=>(bs b0 f j m u z A M N O U V W X Y ad ae ap ar ax bb be bk))) else (bF (decide (f.size+(⟨#[46]⟩:BA).size<=9223372036854775807)) (c2 a24 (fun bx=>(bF (decide ((f++(⟨#[46]⟩:BA)).size+bx.size<=9223372036854775807)) (bs ((f++(⟨#[46]⟩:BA))++bx) f j m u z A M N O U V W X Y ad ae ap ar ax bb be bk))))))) else (bif (decide (f=(⟨#[]⟩:BA))) then (c2 a24 (fun b1=>(bs b1 f j m u z A M N O U V W X Y ad ae ap ar ax bb be bk))) else (bF (decide (f.size+(⟨#[46]⟩:BA).size<=9223372036854775807)) (c2 a24 (fun bP=>(bF (decide ((f++(⟨#[46]⟩:BA)).size+bP.size<=9223372036854775807)) (bs ((f++(⟨#[46]⟩:BA))++bP) f j m u z A M N O U V W X Y ad ae ap ar ax bb be bk))))))) else (bif (decide (f=(⟨#[]⟩:BA))) then (c2 a24 (fun b2=>(bs b2 f j m u z A M N O U V W X Y ad ae ap ar ax bb be bk))) else (bF (decide (f.size+(⟨#[46]⟩:BA).size<=9223372036854775807)) (c2 a24 (fun bS=>(bF (decide ((f++(⟨#[46]⟩:BA)).size+bS.size<=9223372036854775807)) (bs ((f++(⟨#[46]⟩:BA))++bS) f j m u z A M N O U V W X Y ad ae ap ar ax bb be bk)))))))))
end bX
def bX {R:Type}:bX.F R:=fun a0 a1 a2 a3 a4 a5 X Y a8 a9 f j a12 m u z A M N O a20 a21 U V a24 W=>bX.e aC cB a0 a1 a2 a3 a4 a5 X Y a8 a9 f j a12 m u z A M N O a20 a21 U V a24 W
abbrev ak.Q0 (R:Type):Type:=BA->Int->BA->BA->BA->LA->Bool->BA->Bool->BA->Bool->BA->Bool->BA->LA->LA->Bool->BA->Int->Int->Int->Int->Int->LA->Option R
abbrev ak.Q1 (R:Type):Type:=BA->Int->BA->BA->BA->Bool->BA->Bool->BA->Bool->BA->Bool->BA->LA->LA->Bool->BA->Int->Int->Int->Int->Int->LA->Option R
abbrev ak.F (R:Type):Type:=BA->Int->BA->BA->BA->LA->Bool->BA->Bool->BA->Bool->BA->Bool->BA->LA->LA->Bool->BA->Int->Int->Int->Int->Int->Int->Bool->ak.Q0 R->ak.Q1 R->Option R
namespace ak
abbrev J2 (R:Type):Type:=Int->Bool->BA->BA->BA->LA->Bool->BA->Bool->BA->Bool->BA->Bool->BA->LA->LA->Bool->BA->Int->Int->Int->Int->Int->BA->Int->LA->Option R
abbrev J5 (R:Type):Type:=Int->Bool->Int->Int->BA->BA->BA->LA->Bool->BA->Bool->BA->Bool->BA->Bool->BA->LA->LA->Bool->BA->Int->Int->Int->Int->Int->BA->Int->LA->LA->Option R
abbrev J8 (R:Type):Type:=Int->Bool->Int->Int->Int->BA->BA->BA->LA->Bool->BA->Bool->BA->Bool->BA->Bool->BA->LA->LA->Bool->BA->Int->Int->Int->Int->Int->BA->Int->LA->BA->BA->BA->LA->Bool->BA->Bool->BA->Bool->BA->Bool->BA->LA->LA->Bool->BA->Int->Int->Int->Int->Int->LA->Option R
abbrev qL (R:Type):Type:=Int->Bool->Int->Int->BA->BA->BA->LA->Bool->BA->Bool->BA->Bool->BA->Bool->BA->LA->LA->Bool->BA->Int->Int->Int->Int->Int->BA->Int->LA->LA->Option R
abbrev sM (R:Type):Type:=BA->BA->BA->LA->Bool->BA->Bool->BA->Bool->BA->Bool->BA->LA->LA->Bool->BA->Int->Int->Int->Int->Int->LA->BA->Int->Option R
def AP:=fun x0 x1 x2 x3 x4 x5 x6 x7 x8 x9 f j m u z A M N O U V W X Y ad ae ap ar ax=>(⟨er 156 [(0,.ptr 0 0),(1,.ptr 1 0),(2,.int .i64 x0),(3,.bool x1),(40,.own 2624),(41,.int .i64 x2),(42,.int .i64 x3)],[(1,.var 32 [.str x4,.str x5,.str x6,.ro 129 x7 true,.bool x8,.str x9,.bool f,.str j,.bool m,.str u,.bool z,.str A,.ro 129 M true,.ro 9 N true,.bool O,.str U,.int .i64 V,.int .i64 W,.int .i64 X,.int .i64 Y,.int .i64 ad,.own 149]),(0,.var 94 [.str ae,.int .i64 ap]),(149,.row 32 ar true),(2624,.row 29 ax true)],eo⟩:St)
def t2 {R:Type} (j5:J5 R) (ap:sM R):J2 R :=
 fun x0 x1 x2 x3 x4 x5 x6 x7 x8 x9 m u z A M N O U V W X Y ad ae f j=>(bif (decide (x0<(5:Int))) then (bif (decide ((IntKind.wrap .i64 (f+(j.length:Int)))<=(16:Int))) then (j5 x0 x1 (j.length:Int) 0 x2 x3 x4 x5 x6 x7 x8 x9 m u z A M N O U V W X Y ad ae (IntKind.wrap .i64 (f+(j.length:Int))) ([]:LA) j) else (ap x2 x3 x4 x5 x6 x7 x8 x9 m u z A M N O U V W X Y ad ([]:LA) ae f)) else (ap x2 x3 x4 x5 x6 x7 x8 x9 m u z A M N O U V W X Y ad ([]:LA) ae f))
def t5 {R:Type} (c2:aD.F R) (j8:J8 R) (fs:sM R):J5 R :=
 fun x0 x1 x2 j x4 x5 x6 x7 x8 x9 m u z A M N O U V W X Y ad ae ap ar ax a1 f=>(bif (decide (j<x2)) then (bF ((decide ((0:Int)<=j))&&(decide (j<(f.length:Int)))) (bif (decide (x5=(⟨#[109,117,108,116,105,112,97,114,116]⟩:BA))) then (c2 ar ax ((bf f j).fld 0).i ((bf f j).fld 1).i (decide (x6=(⟨#[100,105,103,101,115,116]⟩:BA))) (fun a6 a7 a8 bb be bk bs bx bP bS bV b0 b1 b2 b3 b4 b5 b' ca cl cp ct c0=>(j8 x0 x1 j x2 j x4 x5 x6 x7 x8 x9 m u z A M N O U V W X Y ad ae ap ct c0 a1 a6 a7 a8 bb be bk bs bx bP bS bV b0 b1 b2 b3 b4 b5 b' ca cl cp f))) else (c2 ar ax ((bf f j).fld 0).i ((bf f j).fld 1).i false (fun c' dg dr d' ea eb ed ei ek en ep et ey e0 e1 e2 e3 e4 e5 e' fl fo fr=>(j8 x0 x1 j x2 j x4 x5 x6 x7 x8 x9 m u z A M N O U V W X Y ad ae ap fo fr a1 c' dg dr d' ea eb ed ei ek en ep et ey e0 e1 e2 e3 e4 e5 e' fl f))))) else (fs x4 x5 x6 x7 x8 x9 m u z A M N O U V W X Y ad ae ap a1 ar ax))
def t8 {R:Type} (c5:bX.F R) (c6:aC.F R) (c7:ak.F R) (hB:qL R):J8 R :=
 fun x0 x1 x2 x3 x4 x5 x6 x7 x8 x9 hC hD hE hF hJ hK hL hM hN hO hP hQ hR hS hT hU hV hW hX j5 h0 h1 h2 h3 h4 h5 h6 h7 h8 h9 h' ih ii ix i' j0 j1 j2 j3 j4 gb=>(c5 x5 x6 x7 x8 x9 hC hD hE hF hJ hK hL hM hN hO hP hQ hR hS hT hU hX x0 x1 (IntKind.wrap .i64 (x2+1)) (fun gr g' ha hb hc hd hf hg hh hi hj hk hl hn ho hp hq hr hs ht hv hx hz=>(c6 g' ha hb hc hd hf hg hh hi hj hk hl hn ho hp hq hr hs ht hv hx hz (fun hA j m u z A M N O U V W X Y ad ae ap ar ax a1 a6 a7 f=>(c7 hV hW gr h0 h1 h2 h3 h4 h5 h6 h7 h8 h9 h' ih ii ix i' j0 j1 j2 j3 j4 (IntKind.wrap .i64 (x0+1)) hA (fun a8 bb be bk bs bx bP bS bV b0 b1 b2 b3 b4 b5 b' ca cl cp ct c0 c' dg dr=>(bF (decide ((f.length+1)*304<=140737488355328)) (bF (decide ((f.length+1)*304<=140737488355328)) (bF ((decide ((0:Int)<=(f.length:Int)))&&(decide ((f.length:Int)<((f++[AV.agg [AV.str (⟨#[]⟩:BA),AV.str (⟨#[]⟩:BA),AV.str (⟨#[]⟩:BA),AV.sl [],AV.bool false,AV.str (⟨#[]⟩:BA),AV.bool false,AV.str (⟨#[]⟩:BA),AV.bool false,AV.str (⟨#[]⟩:BA),AV.bool false,AV.str (⟨#[]⟩:BA),AV.sl [],AV.sl [],AV.bool false,AV.str (⟨#[]⟩:BA),AV.int 0,AV.int 0,AV.int 0,AV.int 0,AV.int 0,AV.sl []]]).length:Int)))) (bF (Bz (AP x0 x1 x3 x4 j m u z A M N O U V W X Y ad ae ap ar ax a1 a6 a7 a8 bb (f++[AV.agg [AV.str be,AV.str bk,AV.str bs,AV.sl bx,AV.bool bP,AV.str bS,AV.bool bV,AV.str b0,AV.bool b1,AV.str b2,AV.bool b3,AV.str b4,AV.sl b5,AV.sl b',AV.bool ca,AV.str cl,AV.int cp,AV.int ct,AV.int c0,AV.int c',AV.int dg,AV.sl dr]]) gb) (AP x0 x1 x3 x4 j m u z A M N O U V W X Y ad ae ap ar ax a1 a6 a7 a8 bb (eA (f++[AV.agg [AV.str (⟨#[]⟩:BA),AV.str (⟨#[]⟩:BA),AV.str (⟨#[]⟩:BA),AV.sl [],AV.bool false,AV.str (⟨#[]⟩:BA),AV.bool false,AV.str (⟨#[]⟩:BA),AV.bool false,AV.str (⟨#[]⟩:BA),AV.bool false,AV.str (⟨#[]⟩:BA),AV.sl [],AV.sl [],AV.bool false,AV.str (⟨#[]⟩:BA),AV.int 0,AV.int 0,AV.int 0,AV.int 0,AV.int 0,AV.sl []]]) (f.length:Int) (AV.agg [AV.str be,AV.str bk,AV.str bs,AV.sl bx,AV.bool bP,AV.str bS,AV.bool bV,AV.str b0,AV.bool b1,AV.str b2,AV.bool b3,AV.str b4,AV.sl b5,AV.sl b',AV.bool ca,AV.str cl,AV.int cp,AV.int ct,AV.int c0,AV.int c',AV.int dg,AV.sl dr])) gb)) (hB x0 x1 x3 x4 j m u z A M N O U V W X Y ad ae ap ar ax a1 a6 a7 a8 bb (eA (f++[AV.agg [AV.str (⟨#[]⟩:BA),AV.str (⟨#[]⟩:BA),AV.str (⟨#[]⟩:BA),AV.sl [],AV.bool false,AV.str (⟨#[]⟩:BA),AV.bool false,AV.str (⟨#[]⟩:BA),AV.bool false,AV.str (⟨#[]⟩:BA),AV.bool false,AV.str (⟨#[]⟩:BA),AV.sl [],AV.sl [],AV.bool false,AV.str (⟨#[]⟩:BA),AV.int 0,AV.int 0,AV.int 0,AV.int 0,AV.int 0,AV.sl []]]) (f.length:Int) (AV.agg [AV.str be,AV.str bk,AV.str bs,AV.sl bx,AV.bool bP,AV.str bS,AV.bool bV,AV.str b0,AV.bool b1,AV.str b2,AV.bool b3,AV.str b4,AV.sl b5,AV.sl b',AV.bool ca,AV.str cl,AV.int cp,AV.int ct,AV.int c0,AV.int c',AV.int dg,AV.sl dr])) gb)))))) (fun d' ea eb ed ei ek en ep et ey e0 e1 e2 e3 e4 e5 e' fl fo fr fs fu fz=>(bF (decide ((f.length+1)*304<=140737488355328)) (bF (decide ((f.length+1)*304<=140737488355328)) (bF ((decide ((0:Int)<=(f.length:Int)))&&(decide ((f.length:Int)<((f++[AV.agg [AV.str (⟨#[]⟩:BA),AV.str (⟨#[]⟩:BA),AV.str (⟨#[]⟩:BA),AV.sl [],AV.bool false,AV.str (⟨#[]⟩:BA),AV.bool false,AV.str (⟨#[]⟩:BA),AV.bool false,AV.str (⟨#[]⟩:BA),AV.bool false,AV.str (⟨#[]⟩:BA),AV.sl [],AV.sl [],AV.bool false,AV.str (⟨#[]⟩:BA),AV.int 0,AV.int 0,AV.int 0,AV.int 0,AV.int 0,AV.sl []]]).length:Int)))) (bF (Bz (AP x0 x1 x3 x4 j m u z A M N O U V W X Y ad ae ap ar ax a1 a6 a7 d' ea (f++[AV.agg [AV.str eb,AV.str ed,AV.str ei,AV.sl [],AV.bool ek,AV.str en,AV.bool ep,AV.str et,AV.bool ey,AV.str e0,AV.bool e1,AV.str e2,AV.sl e3,AV.sl e4,AV.bool e5,AV.str e',AV.int fl,AV.int fo,AV.int fr,AV.int fs,AV.int fu,AV.sl fz]]) gb) (AP x0 x1 x3 x4 j m u z A M N O U V W X Y ad ae ap ar ax a1 a6 a7 d' ea (eA (f++[AV.agg [AV.str (⟨#[]⟩:BA),AV.str (⟨#[]⟩:BA),AV.str (⟨#[]⟩:BA),AV.sl [],AV.bool false,AV.str (⟨#[]⟩:BA),AV.bool false,AV.str (⟨#[]⟩:BA),AV.bool false,AV.str (⟨#[]⟩:BA),AV.bool false,AV.str (⟨#[]⟩:BA),AV.sl [],AV.sl [],AV.bool false,AV.str (⟨#[]⟩:BA),AV.int 0,AV.int 0,AV.int 0,AV.int 0,AV.int 0,AV.sl []]]) (f.length:Int) (AV.agg [AV.str eb,AV.str ed,AV.str ei,AV.sl [],AV.bool ek,AV.str en,AV.bool ep,AV.str et,AV.bool ey,AV.str e0,AV.bool e1,AV.str e2,AV.sl e3,AV.sl e4,AV.bool e5,AV.str e',AV.int fl,AV.int fo,AV.int fr,AV.int fs,AV.int fu,AV.sl fz])) gb)) (hB x0 x1 x3 x4 j m u z A M N O U V W X Y ad ae ap ar ax a1 a6 a7 d' ea (eA (f++[AV.agg [AV.str (⟨#[]⟩:BA),AV.str (⟨#[]⟩:BA),AV.str (⟨#[]⟩:BA),AV.sl [],AV.bool false,AV.str (⟨#[]⟩:BA),AV.bool false,AV.str (⟨#[]⟩:BA),AV.bool false,AV.str (⟨#[]⟩:BA),AV.bool false,AV.str (⟨#[]⟩:BA),AV.sl [],AV.sl [],AV.bool false,AV.str (⟨#[]⟩:BA),AV.int 0,AV.int 0,AV.int 0,AV.int 0,AV.int 0,AV.sl []]]) (f.length:Int) (AV.agg [AV.str eb,AV.str ed,AV.str ei,AV.sl [],AV.bool ek,AV.str en,AV.bool ep,AV.str et,AV.bool ey,AV.str e0,AV.bool e1,AV.str e2,AV.sl e3,AV.sl e4,AV.bool e5,AV.str e',AV.int fl,AV.int fo,AV.int fr,AV.int fs,AV.int fu,AV.sl fz])) gb)))))))))))
def t14 {R:Type} (j5:J5 R):qL R :=
 fun x0 x1 x2 x3 x4 x5 x6 x7 x8 x9 f j m u z A M N O U V W X Y ad ae ap ar ax=>(j5 x0 x1 x2 (IntKind.wrap .i64 (x3+1)) x4 x5 x6 x7 x8 x9 f j m u z A M N O U V W X Y ad ae ap ar ax)
def t15 {R:Type} (c3:bN.F R) (c4:aA.F R) (d':Q0 R) (e5:Q1 R):sM R :=
 fun x0 x1 x2 x3 x4 x5 x6 x7 x8 x9 eb ed ei ek en ep et ey a6 a7 e' ea f a8=>(bF ((decide ((0:Int)<=a6))&&((decide (a6<=a7))&&(decide (a7<=(f.size:Int))))) (c3 (f.extract (a6).toNat (a7).toNat) (⟨#[13,10]⟩:BA) (fun bb=>(bif (decide ((ea.length:Int)>(0:Int))) then (c4 x0 x1 x2 x3 x4 x5 x6 x7 x8 x9 eb ed ei ek en ep et ey a6 a7 e' ea (fun e0 be bk bs bx bP bS bV b0 b1 b2 b3 b4 b5 b' ca cl cp ct c0 c' e1 dg=>(bif e0 then (d' f a8 be bk bs bx bP bS bV b0 b1 b2 b3 b4 b5 b' ca cl cp ct c0 c' bb dg) else (d' f a8 be bk bs bx bP bS bV b0 b1 b2 b3 b4 b5 b' ca cl cp ct c0 c' e1 dg)))) else (bif (decide (x1=(⟨#[116,101,120,116]⟩:BA))) then (d' f a8 x0 x1 x2 x3 x4 x5 x6 x7 x8 x9 eb ed ei ek en ep et ey a6 a7 bb ea) else (c4 x0 x1 x2 x3 x4 x5 x6 x7 x8 x9 eb ed ei ek en ep et ey a6 a7 e' ea (fun e2 j dr e3 e4 m u z A M N O U V W X Y ad ae ap ar ax a1=>(bif e2 then (e5 f a8 j (⟨#[97,112,112,108,105,99,97,116,105,111,110]⟩:BA) (⟨#[111,99,116,101,116,45,115,116,114,101,97,109]⟩:BA) m u z A M N O U V W X Y ad ae ap ar ax a1) else (bif (decide (dr=(⟨#[109,117,108,116,105,112,97,114,116]⟩:BA))) then (e5 f a8 j (⟨#[97,112,112,108,105,99,97,116,105,111,110]⟩:BA) (⟨#[111,99,116,101,116,45,115,116,114,101,97,109]⟩:BA) m u z A M N O U V W X Y ad ae ap ar ax a1) else (d' f a8 j dr e3 e4 m u z A M N O U V W X Y ad ae ap ar ax a1))))))))))
def e {R:Type} (c1:aE.F R) (c2:aD.F R) (c3:bN.F R) (c4:aA.F R) (c5:bX.F R) (c6:aC.F R) (c7:ak.F R) (a0:BA) (a1:Int) (a2:BA) (a3:BA) (a4:BA) (a5:LA) (a6:Bool) (a7:BA) (a8:Bool) (a9:BA) (en:Bool) (ep:BA) (a12:Bool) (et:BA) (ey:LA) (e0:LA) (e1:Bool) (e2:BA) (e3:Int) (e4:Int) (a20:Int) (a21:Int) (e5:Int) (ek:Int) (a24:Bool) (j2:J2 R) (j5:J5 R) (j8:J8 R) (e':qL R) (fl:sM R) (fo:Q0 R) (fr:Q1 R):Option R :=
 (c1 a0 a1 a2 a3 a4 a5 a6 a7 a8 a9 en ep a12 et ey e0 e1 e2 e3 e4 a20 a21 e5 (fun f j m u z A M N O U V W X Y ad ae ap ar ax bb be bk bs=>(j2 ek a24 m u z A M N O U V W X Y ad ae ap ar ax bb be bk bs f j ([]:LA))) (fun bx bP bS bV b0 b1 b2 b3 b4 b5 b' ca cl cp ct c0 c' dg dr d' ea eb ed ei=>(j2 ek a24 bV b0 b1 b2 b3 b4 b5 b' ca cl cp ct c0 c' dg dr d' ea eb ed ei bP bS bx)))
def n9 {R:Type} (c1:aE.F R) (c2:aD.F R) (c3:bN.F R) (c4:aA.F R) (c5:bX.F R) (c6:aC.F R) (c7:ak.F R) (j:Q0 R) (m:Q1 R):Nat->sM R
 | 0=>fun _ _ _ _ _ _ _ _ _ _ _ _ _ _ _ _ _ _ _ _ _ _ _ _=>none
 | f+1=>t15 c3 c4 j m
def M5 {R:Type} (c1:aE.F R) (c2:aD.F R) (c3:bN.F R) (c4:aA.F R) (c5:bX.F R) (c6:aC.F R) (c7:ak.F R) (j:Q0 R) (m:Q1 R):Nat->(J5 R) × (J8 R) × (qL R)
 | 0=>(fun _ _ _ _ _ _ _ _ _ _ _ _ _ _ _ _ _ _ _ _ _ _ _ _ _ _ _ _ _=>none,fun _ _ _ _ _ _ _ _ _ _ _ _ _ _ _ _ _ _ _ _ _ _ _ _ _ _ _ _ _ _ _ _ _ _ _ _ _ _ _ _ _ _ _ _ _ _ _ _ _ _ _=>none,fun _ _ _ _ _ _ _ _ _ _ _ _ _ _ _ _ _ _ _ _ _ _ _ _ _ _ _ _ _=>none)
 | f+1=>(t5 c2 ((M5 c1 c2 c3 c4 c5 c6 c7 j m f).2.1) (n9 c1 c2 c3 c4 c5 c6 c7 j m f),
  t8 c5 c6 c7 ((M5 c1 c2 c3 c4 c5 c6 c7 j m f).2.2),
  t14 ((M5 c1 c2 c3 c4 c5 c6 c7 j m f).1))
def L5 {R:Type} (c1:aE.F R) (c2:aD.F R) (c3:bN.F R) (c4:aA.F R) (c5:bX.F R) (c6:aC.F R) (c7:ak.F R) (j:Q0 R) (m:Q1 R) (f:Nat):J5 R:=(M5 c1 c2 c3 c4 c5 c6 c7 j m f).1
def L8 {R:Type} (c1:aE.F R) (c2:aD.F R) (c3:bN.F R) (c4:aA.F R) (c5:bX.F R) (c6:aC.F R) (c7:ak.F R) (j:Q0 R) (m:Q1 R) (f:Nat):J8 R:=(M5 c1 c2 c3 c4 c5 c6 c7 j m f).2.1
def sO {R:Type} (c1:aE.F R) (c2:aD.F R) (c3:bN.F R) (c4:aA.F R) (c5:bX.F R) (c6:aC.F R) (c7:ak.F R) (j:Q0 R) (m:Q1 R) (f:Nat):qL R:=(M5 c1 c2 c3 c4 c5 c6 c7 j m f).2.2
def L2 {R:Type} (c1:aE.F R) (c2:aD.F R) (c3:bN.F R) (c4:aA.F R) (c5:bX.F R) (c6:aC.F R) (c7:ak.F R) (j:Q0 R) (m:Q1 R):Nat->J2 R
 | 0=>fun _ _ _ _ _ _ _ _ _ _ _ _ _ _ _ _ _ _ _ _ _ _ _ _ _ _=>none
 | f+1=>t2 (L5 c1 c2 c3 c4 c5 c6 c7 j m f) (n9 c1 c2 c3 c4 c5 c6 c7 j m f)
def B {R:Type} (c1:aE.F R) (c2:aD.F R) (c3:bN.F R) (c4:aA.F R) (c5:bX.F R) (c6:aC.F R) (c7:ak.F R):F R:=fun a0 a1 a2 a3 a4 a5 Y a7 a8 a9 m u a12 z A M N O U V a20 a21 W X a24 f j=>e c1 c2 c3 c4 c5 c6 c7 a0 a1 a2 a3 a4 a5 Y a7 a8 a9 m u a12 z A M N O U V a20 a21 W X a24 (L2 c1 c2 c3 c4 c5 c6 c7 f j ag) (L5 c1 c2 c3 c4 c5 c6 c7 f j ag) (L8 c1 c2 c3 c4 c5 c6 c7 f j ag) (sO c1 c2 c3 c4 c5 c6 c7 f j ag) (n9 c1 c2 c3 c4 c5 c6 c7 f j ag) f j
def R {R:Type}:Nat->F R
 | 0=>fun _ _ _ _ _ _ _ _ _ _ _ _ _ _ _ _ _ _ _ _ _ _ _ _ _ _ _=>none
 | n+1=>B aE aD bN aA bX aC (ak.R n)
end ak
def ak {R:Type}:ak.F R:=ak.R ag
abbrev bu.Q0 (R:Type):Type:=BA->BA->BA->LA->Bool->BA->Bool->BA->Bool->BA->Bool->BA->LA->LA->Bool->BA->Int->Int->Int->Int->Int->LA->Option R
abbrev bu.F (R:Type):Type:=BA->bu.Q0 R->Option R
namespace bu
abbrev J4 (R:Type):Type:=BA->BA->BA->Bool->BA->Bool->BA->Bool->BA->Bool->BA->Bool->BA->Int->Int->Int->Int->Int->BA->BA->BA->LA->Bool->BA->Bool->BA->Bool->BA->Bool->BA->LA->LA->Bool->BA->Int->Int->Int->Int->Int->LA->Option R
def t4 {R:Type} (f:Q0 R):J4 R :=
 fun x0 x1 x2 x3 x4 x5 x6 x7 x8 x9 bb be bk bs bx bP bS bV j m u z A M N O U V W X Y ad ae ap ar ax a1 a6 a7 a8=>(f j m u z A M N O U V W X Y ad ae ap ar ax a1 a6 a7 a8)
def e {R:Type} (c1:aD.F R) (c2:ak.F R) (a0:BA) (j4:J4 R) (gr:Q0 R):Option R :=
 (c1 a0 0 0 (a0.size:Int) false (fun c' dg dr d' ea eb ed ei ek en ep et ey e0 e1 e2 e3 e4 e5 e' fl fo fr=>(c2 fo fr c' dg dr d' ea eb ed ei ek en ep et ey e0 e1 e2 e3 e4 e5 e' fl 0 false (fun fs fu f j m u z A M N O U V W X Y ad ae ap ar ax a1 a6 a7=>(j4 (⟨#[]⟩:BA) (⟨#[]⟩:BA) (⟨#[]⟩:BA) false (⟨#[]⟩:BA) false (⟨#[]⟩:BA) false (⟨#[]⟩:BA) false (⟨#[]⟩:BA) false (⟨#[]⟩:BA) 0 0 0 0 0 f j m u z A M N O U V W X Y ad ae ap ar ax a1 a6 a7)) (fun fz gb a8 bb be bk bs bx bP bS bV b0 b1 b2 b3 b4 b5 b' ca cl cp ct c0=>(j4 (⟨#[]⟩:BA) (⟨#[]⟩:BA) (⟨#[]⟩:BA) false (⟨#[]⟩:BA) false (⟨#[]⟩:BA) false (⟨#[]⟩:BA) false (⟨#[]⟩:BA) false (⟨#[]⟩:BA) 0 0 0 0 0 a8 bb be ([]:LA) bk bs bx bP bS bV b0 b1 b2 b3 b4 b5 b' ca cl cp ct c0)))))
def L4 {R:Type} (c1:aD.F R) (c2:ak.F R) (j:Q0 R):Nat->J4 R
 | 0=>fun _ _ _ _ _ _ _ _ _ _ _ _ _ _ _ _ _ _ _ _ _ _ _ _ _ _ _ _ _ _ _ _ _ _ _ _ _ _ _ _=>none
 | f+1=>t4 j
end bu
def bu {R:Type}:bu.F R:=fun a0 f=>bu.e aD ak a0 (bu.L4 aD ak f ag) f
abbrev dB.F (R:Type):Type:=BA->Int->Int->(BA->Option R)->Option R
namespace dB
def e {R:Type} (a0:BA) (a1:Int) (a2:Int) (f:BA->Option R):Option R :=
 (bif (decide (a1<(0:Int))) then (f (⟨#[]⟩:BA)) else (bif (decide (a2<(0:Int))) then (f (⟨#[]⟩:BA)) else (bif (decide (a1>(a0.size:Int))) then (f (⟨#[]⟩:BA)) else (bF ((decide ((0:Int)<=a1))&&((decide (a1<=(IntKind.wrap .i64 (a1+(min2 a2 (IntKind.wrap .i64 ((a0.size:Int)-a1)))))))&&(decide ((IntKind.wrap .i64 (a1+(min2 a2 (IntKind.wrap .i64 ((a0.size:Int)-a1)))))<=(a0.size:Int))))) (f (a0.extract (a1).toNat ((IntKind.wrap .i64 (a1+(min2 a2 (IntKind.wrap .i64 ((a0.size:Int)-a1)))))).toNat))))))
end dB
def dB {R:Type}:dB.F R:=fun a0 a1 a2 f=>dB.e a0 a1 a2 f
abbrev cm.F (R:Type):Type:=(Bool->Option R)->Option R
namespace cm
def e {R:Type} (c1:bu.F R) (c2:dB.F R) (j:Bool->Option R):Option R :=
 (c1 (⟨#[67,111,110,116,101,110,116,45,84,121,112,101,58,32,109,117,108,116,105,112,97,114,116,47,109,105,120,101,100,59,32,98,111,117,110,100,97,114,121,61,98,13,10,13,10,45,45,98,13,10,13,10,111,110,101,13,10,45,45,98,45,45,13,10]⟩:BA) (fun z m A M N O U V W X Y ad ae ap ar ax a1 a6 a7 a8 bb f=>(bif (decide (m=(⟨#[109,117,108,116,105,112,97,114,116]⟩:BA))) then (bif ((f.length:Int) == 1) then (bF (decide ((0:Int)<(f.length:Int))) (bif (decide (((bf f 0).fld 0).s=(⟨#[49]⟩:BA))) then (bF (decide ((0:Int)<(f.length:Int))) (bif (decide (((bf f 0).fld 1).s=(⟨#[116,101,120,116]⟩:BA))) then (bF (decide ((0:Int)<(f.length:Int))) (bif ((((bf f 0).fld 18).i == 52)&&((((bf f 0).fld 19).i == 55)&&true)) then (c2 (⟨#[104,101,108,108,111]⟩:BA) 1 3 (fun u=>(j (decide (u=(⟨#[101,108,108]⟩:BA)))))) else (j false))) else (j false))) else (j false))) else (j false)) else (j false))))
end cm
def cm {R:Type}:cm.F R:=fun f=>cm.e bu dB f
abbrev bD.F (R:Type):Type:=BA->(LA->Option R)->Option R
namespace bD
abbrev J4 (R:Type):Type:=BA->Int->Int->LA->Option R
def t4 {R:Type} (z:J4 R) (u:LA->Option R):J4 R :=
 fun x0 j f m=>(bif (decide ((IntKind.wrap .i64 (f+1))<(x0.size:Int))) then (bF ((decide ((0:Int)<=f))&&(decide (f<(x0.size:Int)))) (bif ((dM x0 f) == 13) then (bF ((decide ((0:Int)<=(IntKind.wrap .i64 (f+1))))&&(decide ((IntKind.wrap .i64 (f+1))<(x0.size:Int)))) (bif ((dM x0 (IntKind.wrap .i64 (f+1))) == 10) then (bF ((decide ((0:Int)<=j))&&((decide (j<=(IntKind.wrap .i64 (f+2))))&&(decide ((IntKind.wrap .i64 (f+2))<=(x0.size:Int))))) (bF (decide ((m.length+1)*16<=140737488355328)) (z x0 (IntKind.wrap .i64 (f+2)) (IntKind.wrap .i64 ((IntKind.wrap .i64 (f+1))+1)) (m++[AV.str (x0.extract (j).toNat ((IntKind.wrap .i64 (f+2))).toNat)])))) else (z x0 j (IntKind.wrap .i64 (f+1)) m))) else (z x0 j (IntKind.wrap .i64 (f+1)) m))) else (bif (decide (j<(x0.size:Int))) then (bF ((decide ((0:Int)<=j))&&((decide (j<=(x0.size:Int)))&&(decide ((x0.size:Int)<=(x0.size:Int))))) (bF (decide ((m.length+1)*16<=140737488355328)) (u (m++[AV.str (x0.extract (j).toNat ((x0.size:Int)).toNat)])))) else (u m)))
def e {R:Type} (a0:BA) (f:J4 R) (j:LA->Option R):Option R :=
 (f a0 0 0 ([]:LA))
def L4 {R:Type} (j:LA->Option R):Nat->J4 R
 | 0=>fun _ _ _ _=>none
 | f+1=>t4 (L4 j f) j
end bD
def bD {R:Type}:bD.F R:=fun a0 f=>bD.e a0 (bD.L4 f ag) f
abbrev cG.F (R:Type):Type:=BA->(BA->BA->Option R)->Option R
namespace cG
abbrev J4 (R:Type):Type:=BA->Int->Int->LA->Option R
def t4 {R:Type} (z:J4 R) (u:BA->BA->Option R):J4 R :=
 fun x0 m f j=>(bif (decide (f<(j.length:Int))) then (bF ((decide ((0:Int)<=f))&&(decide (f<(j.length:Int)))) (bF ((decide ((0:Int)<=f))&&(decide (f<(j.length:Int)))) (bif (decide ((bf j f).s=(⟨#[13,10]⟩:BA))) then (bF ((decide ((0:Int)<=(IntKind.wrap .i64 (m+((bf j f).s.size:Int)))))&&(decide ((IntKind.wrap .i64 (m+((bf j f).s.size:Int)))<=(x0.size:Int)))) (bF ((decide ((0:Int)<=(IntKind.wrap .i64 (m+((bf j f).s.size:Int)))))&&((decide ((IntKind.wrap .i64 (m+((bf j f).s.size:Int)))<=(x0.size:Int)))&&(decide ((x0.size:Int)<=(x0.size:Int))))) (u (x0.extract ((0:Int)).toNat ((IntKind.wrap .i64 (m+((bf j f).s.size:Int)))).toNat) (x0.extract ((IntKind.wrap .i64 (m+((bf j f).s.size:Int)))).toNat ((x0.size:Int)).toNat)))) else (z x0 (IntKind.wrap .i64 (m+((bf j f).s.size:Int))) (IntKind.wrap .i64 (f+1)) j)))) else (u x0 (⟨#[]⟩:BA)))
def e {R:Type} (c1:bD.F R) (a0:BA) (j:J4 R) (m:BA->BA->Option R):Option R :=
 (c1 a0 (fun f=>(j a0 0 0 f)))
def L4 {R:Type} (c1:bD.F R) (j:BA->BA->Option R):Nat->J4 R
 | 0=>fun _ _ _ _=>none
 | f+1=>t4 (L4 c1 j f) j
end cG
def cG {R:Type}:cG.F R:=fun a0 f=>cG.e bD a0 (cG.L4 bD f ag) f
abbrev aP.F (R:Type):Type:=Int->(Bool->Option R)->Option R
namespace aP
def e {R:Type} (a0:Int) (f:Bool->Option R):Option R :=
 (bif (a0 == 32) then (f true) else (f (a0 == 9)))
end aP
def aP {R:Type}:aP.F R:=fun a0 f=>aP.e a0 f
abbrev bT.F (R:Type):Type:=BA->(Int->Int->Option R)->Option R
namespace bT
abbrev J5 (R:Type):Type:=BA->Int->Int->Option R
def t2 {R:Type} (m:BA->Int->Option R) (j:J5 R):BA->Int->Option R :=
 fun x0 f=>(bif (decide (f<(x0.size:Int))) then (bF ((decide ((0:Int)<=f))&&(decide (f<(x0.size:Int)))) (bif (decide ((dM x0 f)>=(33:Int))) then (bF ((decide ((0:Int)<=f))&&(decide (f<(x0.size:Int)))) (bif (decide ((dM x0 f)<=(126:Int))) then (bF ((decide ((0:Int)<=f))&&(decide (f<(x0.size:Int)))) (bif ((dM x0 f) != 58) then (m x0 (IntKind.wrap .i64 (f+1))) else (j x0 f f))) else (j x0 f f))) else (j x0 f f))) else (j x0 f f))
def t5 {R:Type} (c1:aP.F R) (z:J5 R) (f:Int->Int->Option R):J5 R :=
 fun x0 j u=>(bif (decide (j<(x0.size:Int))) then (bF ((decide ((0:Int)<=j))&&(decide (j<(x0.size:Int)))) (c1 (dM x0 j) (fun m=>(bif m then (z x0 (IntKind.wrap .i64 (j+1)) u) else (bif (u == 0) then (f (-1) 0) else (bif (j == (x0.size:Int)) then (f (-1) 0) else (bF ((decide ((0:Int)<=j))&&(decide (j<(x0.size:Int)))) (bif ((dM x0 j) != 58) then (f (-1) 0) else (f j u))))))))) else (bif (u == 0) then (f (-1) 0) else (bif (j == (x0.size:Int)) then (f (-1) 0) else (bF ((decide ((0:Int)<=j))&&(decide (j<(x0.size:Int)))) (bif ((dM x0 j) != 58) then (f (-1) 0) else (f j u))))))
def e {R:Type} (c1:aP.F R) (a0:BA) (f:BA->Int->Option R) (m:J5 R) (j:Int->Int->Option R):Option R :=
 (f a0 0)
def L5 {R:Type} (c1:aP.F R) (j:Int->Int->Option R):Nat->J5 R
 | 0=>fun _ _ _=>none
 | f+1=>t5 c1 (L5 c1 j f) j
def L2 {R:Type} (c1:aP.F R) (j:Int->Int->Option R):Nat->BA->Int->Option R
 | 0=>fun _ _=>none
 | f+1=>t2 (L2 c1 j f) (L5 c1 j f)
end bT
def bT {R:Type}:bT.F R:=fun a0 f=>bT.e aP a0 (bT.L2 aP f ag) (bT.L5 aP f ag) f
abbrev cW.F (R:Type):Type:=BA->(BA->Option R)->Option R
namespace cW
def e {R:Type} (a0:BA) (f:BA->Option R):Option R :=
 (bif (decide ((a0.size:Int)>=(2:Int))) then (bF ((decide ((0:Int)<=(IntKind.wrap .i64 ((a0.size:Int)-2))))&&(decide ((IntKind.wrap .i64 ((a0.size:Int)-2))<(a0.size:Int)))) (bif ((dM a0 (IntKind.wrap .i64 ((a0.size:Int)-2))) == 13) then (bF ((decide ((0:Int)<=(IntKind.wrap .i64 ((a0.size:Int)-1))))&&(decide ((IntKind.wrap .i64 ((a0.size:Int)-1))<(a0.size:Int)))) (bif ((dM a0 (IntKind.wrap .i64 ((a0.size:Int)-1))) == 10) then (bF ((decide ((0:Int)<=(IntKind.wrap .i64 ((a0.size:Int)-2))))&&(decide ((IntKind.wrap .i64 ((a0.size:Int)-2))<=(a0.size:Int)))) (f (a0.extract ((0:Int)).toNat ((IntKind.wrap .i64 ((a0.size:Int)-2))).toNat))) else (f a0))) else (f a0))) else (f a0))
end cW
def cW {R:Type}:cW.F R:=fun a0 f=>cW.e a0 f
abbrev cI.F (R:Type):Type:=BA->(LA->Option R)->Option R
namespace cI
abbrev J4 (R:Type):Type:=Int->LA->LA->Option R
abbrev J5 (R:Type):Type:=Int->LA->LA->Option R
abbrev ui (R:Type):Type:=Int->BA->LA->LA->Option R
def t4 {R:Type} (c2:aP.F R) (c3:cW.F R) (M:J5 R) (z:ui R) (A:LA->Option R):J4 R :=
 fun x0 f j=>(bif (decide (x0<(j.length:Int))) then (bF ((decide ((0:Int)<=x0))&&(decide (x0<(j.length:Int)))) (bif (!decide ((bf j x0).s=(⟨#[13,10]⟩:BA))) then (bF ((decide ((0:Int)<=x0))&&(decide (x0<(j.length:Int)))) (bF (decide ((0:Int)<((bf j x0).s.size:Int))) (c2 (dM (bf j x0).s 0) (fun u=>(bif u then (bif (decide ((IntKind.wrap .i64 ((f.length:Int)-1))>=(0:Int))) then (bF ((decide ((0:Int)<=(IntKind.wrap .i64 ((f.length:Int)-1))))&&(decide ((IntKind.wrap .i64 ((f.length:Int)-1))<(f.length:Int)))) (bF (decide (((bf f (IntKind.wrap .i64 ((f.length:Int)-1))).fld 2).s.size+(bf j x0).s.size<=9223372036854775807)) (bF ((decide ((0:Int)<=(IntKind.wrap .i64 ((f.length:Int)-1))))&&(decide ((IntKind.wrap .i64 ((f.length:Int)-1))<(f.length:Int)))) (bF ((decide ((0:Int)<=(IntKind.wrap .i64 ((f.length:Int)-1))))&&(decide ((IntKind.wrap .i64 ((f.length:Int)-1))<((eA f (IntKind.wrap .i64 ((f.length:Int)-1)) (AV.agg [AV.str ((bf f (IntKind.wrap .i64 ((f.length:Int)-1))).fld 0).s,AV.str ((bf f (IntKind.wrap .i64 ((f.length:Int)-1))).fld 1).s,AV.str (((bf f (IntKind.wrap .i64 ((f.length:Int)-1))).fld 2).s++(bf j x0).s)])).length:Int)))) (c3 (bf j x0).s (fun m=>(bF (decide (((bf (eA f (IntKind.wrap .i64 ((f.length:Int)-1)) (AV.agg [AV.str ((bf f (IntKind.wrap .i64 ((f.length:Int)-1))).fld 0).s,AV.str ((bf f (IntKind.wrap .i64 ((f.length:Int)-1))).fld 1).s,AV.str (((bf f (IntKind.wrap .i64 ((f.length:Int)-1))).fld 2).s++(bf j x0).s)])) (IntKind.wrap .i64 ((f.length:Int)-1))).fld 1).s.size+m.size<=9223372036854775807)) (bF ((decide ((0:Int)<=(IntKind.wrap .i64 ((f.length:Int)-1))))&&(decide ((IntKind.wrap .i64 ((f.length:Int)-1))<((eA f (IntKind.wrap .i64 ((f.length:Int)-1)) (AV.agg [AV.str ((bf f (IntKind.wrap .i64 ((f.length:Int)-1))).fld 0).s,AV.str ((bf f (IntKind.wrap .i64 ((f.length:Int)-1))).fld 1).s,AV.str (((bf f (IntKind.wrap .i64 ((f.length:Int)-1))).fld 2).s++(bf j x0).s)])).length:Int)))) (M x0 (eA (eA f (IntKind.wrap .i64 ((f.length:Int)-1)) (AV.agg [AV.str ((bf f (IntKind.wrap .i64 ((f.length:Int)-1))).fld 0).s,AV.str ((bf f (IntKind.wrap .i64 ((f.length:Int)-1))).fld 1).s,AV.str (((bf f (IntKind.wrap .i64 ((f.length:Int)-1))).fld 2).s++(bf j x0).s)])) (IntKind.wrap .i64 ((f.length:Int)-1)) (AV.agg [AV.str ((bf (eA f (IntKind.wrap .i64 ((f.length:Int)-1)) (AV.agg [AV.str ((bf f (IntKind.wrap .i64 ((f.length:Int)-1))).fld 0).s,AV.str ((bf f (IntKind.wrap .i64 ((f.length:Int)-1))).fld 1).s,AV.str (((bf f (IntKind.wrap .i64 ((f.length:Int)-1))).fld 2).s++(bf j x0).s)])) (IntKind.wrap .i64 ((f.length:Int)-1))).fld 0).s,AV.str (((bf (eA f (IntKind.wrap .i64 ((f.length:Int)-1)) (AV.agg [AV.str ((bf f (IntKind.wrap .i64 ((f.length:Int)-1))).fld 0).s,AV.str ((bf f (IntKind.wrap .i64 ((f.length:Int)-1))).fld 1).s,AV.str (((bf f (IntKind.wrap .i64 ((f.length:Int)-1))).fld 2).s++(bf j x0).s)])) (IntKind.wrap .i64 ((f.length:Int)-1))).fld 1).s++m),AV.str ((bf (eA f (IntKind.wrap .i64 ((f.length:Int)-1)) (AV.agg [AV.str ((bf f (IntKind.wrap .i64 ((f.length:Int)-1))).fld 0).s,AV.str ((bf f (IntKind.wrap .i64 ((f.length:Int)-1))).fld 1).s,AV.str (((bf f (IntKind.wrap .i64 ((f.length:Int)-1))).fld 2).s++(bf j x0).s)])) (IntKind.wrap .i64 ((f.length:Int)-1))).fld 2).s])) j))))))))) else (z x0 (bf j x0).s f j)) else (z x0 (bf j x0).s f j)))))) else (A f))) else (A f))
def t5 {R:Type} (f:J4 R):J5 R :=
 fun x0 j m=>(f (IntKind.wrap .i64 (x0+1)) j m)
def t11 {R:Type} (c2:aP.F R) (c3:cW.F R) (c4:bT.F R) (M:J5 R):ui R :=
 fun x0 m A N=>(c4 m (fun f j=>(bF (decide ((0:Int)<(m.size:Int))) (c2 (dM m 0) (fun u=>(bif u then (bF (decide ((A.length+1)*48<=140737488355328)) (M x0 (A++[AV.agg [AV.str (⟨#[]⟩:BA),AV.str (⟨#[]⟩:BA),AV.str m]]) N)) else (bif (decide (f<(0:Int))) then (bF (decide ((A.length+1)*48<=140737488355328)) (M x0 (A++[AV.agg [AV.str (⟨#[]⟩:BA),AV.str (⟨#[]⟩:BA),AV.str m]]) N)) else (bF ((decide ((0:Int)<=j))&&(decide (j<=(m.size:Int)))) (bF ((decide ((0:Int)<=(IntKind.wrap .i64 (f+1))))&&((decide ((IntKind.wrap .i64 (f+1))<=(m.size:Int)))&&(decide ((m.size:Int)<=(m.size:Int))))) (c3 (m.extract ((IntKind.wrap .i64 (f+1))).toNat ((m.size:Int)).toNat) (fun z=>(bF (decide ((A.length+1)*48<=140737488355328)) (M x0 (A++[AV.agg [AV.str (m.extract ((0:Int)).toNat (j).toNat),AV.str z,AV.str m]]) N)))))))))))))
def e {R:Type} (c1:bD.F R) (c2:aP.F R) (c3:cW.F R) (c4:bT.F R) (a0:BA) (j:J4 R) (z:J5 R) (m:ui R) (u:LA->Option R):Option R :=
 (c1 a0 (fun f=>(j 0 ([]:LA) f)))
def M4 {R:Type} (c1:bD.F R) (c2:aP.F R) (c3:cW.F R) (c4:bT.F R) (j:LA->Option R):Nat->(J4 R) × (J5 R) × (ui R)
 | 0=>(fun _ _ _=>none,fun _ _ _=>none,fun _ _ _ _=>none)
 | f+1=>(t4 c2 c3 ((M4 c1 c2 c3 c4 j f).2.1) ((M4 c1 c2 c3 c4 j f).2.2) j,
  t5 ((M4 c1 c2 c3 c4 j f).1),
  t11 c2 c3 c4 ((M4 c1 c2 c3 c4 j f).2.1))
def L4 {R:Type} (c1:bD.F R) (c2:aP.F R) (c3:cW.F R) (c4:bT.F R) (j:LA->Option R) (f:Nat):J4 R:=(M4 c1 c2 c3 c4 j f).1
def L5 {R:Type} (c1:bD.F R) (c2:aP.F R) (c3:cW.F R) (c4:bT.F R) (j:LA->Option R) (f:Nat):J5 R:=(M4 c1 c2 c3 c4 j f).2.1
def sN {R:Type} (c1:bD.F R) (c2:aP.F R) (c3:cW.F R) (c4:bT.F R) (j:LA->Option R) (f:Nat):ui R:=(M4 c1 c2 c3 c4 j f).2.2
end cI
def cI {R:Type}:cI.F R:=fun a0 f=>cI.e bD aP cW bT a0 (cI.L4 bD aP cW bT f ag) (cI.L5 bD aP cW bT f ag) (cI.sN bD aP cW bT f ag) f
abbrev da.F (R:Type):Type:=BA->(BA->Option R)->Option R
namespace da
def t1 {R:Type} (c1:aP.F R) (m:BA->Option R) (j:BA->Option R):BA->Option R :=
 fun x0=>(bif (decide ((x0.size:Int)>(0:Int))) then (bF (decide ((0:Int)<(x0.size:Int))) (c1 (dM x0 0) (fun f=>(bif f then (bF ((decide ((1:Int)<=(x0.size:Int)))&&(decide ((x0.size:Int)<=(x0.size:Int)))) (m (x0.extract ((1:Int)).toNat ((x0.size:Int)).toNat))) else (j x0))))) else (j x0))
def t3 {R:Type} (c1:aP.F R) (m:BA->Option R) (j:BA->Option R):BA->Option R :=
 fun x0=>(bif (decide ((x0.size:Int)>(0:Int))) then (bF ((decide ((0:Int)<=(IntKind.wrap .i64 ((x0.size:Int)-1))))&&(decide ((IntKind.wrap .i64 ((x0.size:Int)-1))<(x0.size:Int)))) (c1 (dM x0 (IntKind.wrap .i64 ((x0.size:Int)-1))) (fun f=>(bif f then (bF ((decide ((0:Int)<=(IntKind.wrap .i64 ((x0.size:Int)-1))))&&(decide ((IntKind.wrap .i64 ((x0.size:Int)-1))<=(x0.size:Int)))) (m (x0.extract ((0:Int)).toNat ((IntKind.wrap .i64 ((x0.size:Int)-1))).toNat))) else (j x0))))) else (j x0))
def e {R:Type} (c1:aP.F R) (a0:BA) (f:BA->Option R) (m:BA->Option R) (j:BA->Option R):Option R :=
 (f a0)
def L3 {R:Type} (c1:aP.F R) (j:BA->Option R):Nat->BA->Option R
 | 0=>fun _=>none
 | f+1=>t3 c1 (L3 c1 j f) j
def L1 {R:Type} (c1:aP.F R) (j:BA->Option R):Nat->BA->Option R
 | 0=>fun _=>none
 | f+1=>t1 c1 (L1 c1 j f) (L3 c1 j f)
end da
def da {R:Type}:da.F R:=fun a0 f=>da.e aP a0 (da.L1 aP f ag) (da.L3 aP f ag) f
abbrev ch.F (R:Type):Type:=BA->(LA->Option R)->Option R
namespace ch
abbrev J4 (R:Type):Type:=Int->LA->LA->Option R
def t4 {R:Type} (c2:da.F R) (z:J4 R) (u:LA->Option R):J4 R :=
 fun x0 m f=>(bif (decide (x0<(f.length:Int))) then (bif (decide ((m.length:Int)<(64:Int))) then (bF ((decide ((0:Int)<=x0))&&(decide (x0<(f.length:Int)))) (bif (!decide (((bf f x0).fld 0).s=(⟨#[]⟩:BA))) then (bF ((decide ((0:Int)<=x0))&&(decide (x0<(f.length:Int)))) (c2 ((bf f x0).fld 1).s (fun j=>(bF (decide ((m.length+1)*48<=140737488355328)) (z (IntKind.wrap .i64 (x0+1)) (m++[AV.agg [AV.str ((bf f x0).fld 0).s,AV.str j,AV.str ((bf f x0).fld 2).s]]) f))))) else (z (IntKind.wrap .i64 (x0+1)) m f))) else (u m)) else (u m))
def e {R:Type} (c1:cI.F R) (c2:da.F R) (a0:BA) (j:J4 R) (m:LA->Option R):Option R :=
 (c1 a0 (fun f=>(j 0 ([]:LA) f)))
def L4 {R:Type} (c1:cI.F R) (c2:da.F R) (j:LA->Option R):Nat->J4 R
 | 0=>fun _ _ _=>none
 | f+1=>t4 c2 (L4 c1 c2 j f) j
end ch
def ch {R:Type}:ch.F R:=fun a0 f=>ch.e cI da a0 (ch.L4 cI da f ag) f
abbrev du.F (R:Type):Type:=BA->(BA->Option R)->Option R
namespace du
abbrev J3 (R:Type):Type:=BA->Int->LA->Option R
def t3 {R:Type} (m:J3 R) (u:BA->Option R):J3 R :=
 fun x0 f j=>(bif (decide (f<(x0.size:Int))) then (bF ((decide ((0:Int)<=f))&&(decide (f<(x0.size:Int)))) (bif (decide ((dM x0 f)>=(65:Int))) then (bif (decide ((dM x0 f)<=(90:Int))) then (bF (decide ((j.length+1)*1<=140737488355328)) (m x0 (IntKind.wrap .i64 (f+1)) (j++[AV.int (IntKind.wrap .u8 ((dM x0 f)+32))]))) else (bF (decide ((j.length+1)*1<=140737488355328)) (m x0 (IntKind.wrap .i64 (f+1)) (j++[AV.int (dM x0 f)])))) else (bF (decide ((j.length+1)*1<=140737488355328)) (m x0 (IntKind.wrap .i64 (f+1)) (j++[AV.int (dM x0 f)]))))) else (u (fE j)))
def e {R:Type} (a0:BA) (f:J3 R) (j:BA->Option R):Option R :=
 (f a0 0 ([]:LA))
def L3 {R:Type} (j:BA->Option R):Nat->J3 R
 | 0=>fun _ _ _=>none
 | f+1=>t3 (L3 j f) j
end du
def du {R:Type}:du.F R:=fun a0 f=>du.e a0 (du.L3 f ag) f
abbrev dE.F (R:Type):Type:=BA->BA->(Bool->Option R)->Option R
namespace dE
def e {R:Type} (c1:du.F R) (a0:BA) (a1:BA) (m:Bool->Option R):Option R :=
 (c1 a0 (fun f=>(c1 a1 (fun j=>(m (decide (f=j)))))))
end dE
def dE {R:Type}:dE.F R:=fun a0 a1 f=>dE.e du a0 a1 f
abbrev dw.F (R:Type):Type:=LA->BA->(Bool->BA->Option R)->Option R
namespace dw
abbrev J2 (R:Type):Type:=LA->BA->Int->Bool->BA->Option R
def t2 {R:Type} (c1:dE.F R) (z:J2 R) (m:Bool->BA->Option R):J2 R :=
 fun x0 u f A M=>(bif (decide (f<(x0.length:Int))) then (bF ((decide ((0:Int)<=f))&&(decide (f<(x0.length:Int)))) (c1 ((bf x0 f).fld 0).s u (fun j=>(bif j then (bF ((decide ((0:Int)<=f))&&(decide (f<(x0.length:Int)))) (m true ((bf x0 f).fld 1).s)) else (z x0 u (IntKind.wrap .i64 (f+1)) A M))))) else (m false (⟨#[]⟩:BA)))
def e {R:Type} (c1:dE.F R) (a0:LA) (a1:BA) (f:J2 R) (j:Bool->BA->Option R):Option R :=
 (f a0 a1 0 false (⟨#[]⟩:BA))
def L2 {R:Type} (c1:dE.F R) (j:Bool->BA->Option R):Nat->J2 R
 | 0=>fun _ _ _ _ _=>none
 | f+1=>t2 c1 (L2 c1 j f) j
end dw
def dw {R:Type}:dw.F R:=fun a0 a1 f=>dw.e dE a0 a1 (dw.L2 dE f ag) f
abbrev aK.F (R:Type):Type:=BA->Int->(Int->Option R)->Option R
namespace aK
abbrev J7 (R:Type):Type:=BA->Int->Int->Option R
def t1 {R:Type} (m:BA->Int->Option R) (u:J7 R) (j:Int->Option R):BA->Int->Option R :=
 fun x0 f=>(bif (decide (f<(x0.size:Int))) then (bF ((decide ((0:Int)<=f))&&(decide (f<(x0.size:Int)))) (bif ((dM x0 f) == 32) then (m x0 (IntKind.wrap .i64 (f+1))) else (bF ((decide ((0:Int)<=f))&&(decide (f<(x0.size:Int)))) (bif ((dM x0 f) == 9) then (m x0 (IntKind.wrap .i64 (f+1))) else (bF ((decide ((0:Int)<=f))&&(decide (f<(x0.size:Int)))) (bif ((dM x0 f) != 40) then (j f) else (u x0 f 0))))))) else (j f))
def t7 {R:Type} (u:BA->Int->Option R) (m:J7 R):J7 R :=
 fun x0 f j=>(bif (decide (f<(x0.size:Int))) then (bF ((decide ((0:Int)<=f))&&(decide (f<(x0.size:Int)))) (bif ((dM x0 f) == 92) then (bif (decide ((IntKind.wrap .i64 (f+1))<(x0.size:Int))) then (m x0 (IntKind.wrap .i64 ((IntKind.wrap .i64 (f+1))+1)) j) else (bif ((dM x0 f) == 40) then (bif ((dM x0 f) == 41) then (bif ((IntKind.wrap .i64 ((IntKind.wrap .i64 (j+1))-1)) == 0) then (u x0 (IntKind.wrap .i64 (f+1))) else (m x0 (IntKind.wrap .i64 (f+1)) (IntKind.wrap .i64 ((IntKind.wrap .i64 (j+1))-1)))) else (m x0 (IntKind.wrap .i64 (f+1)) (IntKind.wrap .i64 (j+1)))) else (bif ((dM x0 f) == 41) then (bif ((IntKind.wrap .i64 (j-1)) == 0) then (u x0 (IntKind.wrap .i64 (f+1))) else (m x0 (IntKind.wrap .i64 (f+1)) (IntKind.wrap .i64 (j-1)))) else (m x0 (IntKind.wrap .i64 (f+1)) j)))) else (bif ((dM x0 f) == 40) then (bif ((dM x0 f) == 41) then (bif ((IntKind.wrap .i64 ((IntKind.wrap .i64 (j+1))-1)) == 0) then (u x0 (IntKind.wrap .i64 (f+1))) else (m x0 (IntKind.wrap .i64 (f+1)) (IntKind.wrap .i64 ((IntKind.wrap .i64 (j+1))-1)))) else (m x0 (IntKind.wrap .i64 (f+1)) (IntKind.wrap .i64 (j+1)))) else (bif ((dM x0 f) == 41) then (bif ((IntKind.wrap .i64 (j-1)) == 0) then (u x0 (IntKind.wrap .i64 (f+1))) else (m x0 (IntKind.wrap .i64 (f+1)) (IntKind.wrap .i64 (j-1)))) else (m x0 (IntKind.wrap .i64 (f+1)) j))))) else (u x0 f))
def e {R:Type} (a0:BA) (a1:Int) (f:BA->Int->Option R) (m:J7 R) (j:Int->Option R):Option R :=
 (f a0 a1)
def M1 {R:Type} (j:Int->Option R):Nat->(BA->Int->Option R) × (J7 R)
 | 0=>(fun _ _=>none,fun _ _ _=>none)
 | f+1=>(t1 ((M1 j f).1) ((M1 j f).2) j,
  t7 ((M1 j f).1) ((M1 j f).2))
def L1 {R:Type} (j:Int->Option R) (f:Nat):BA->Int->Option R:=(M1 j f).1
def L7 {R:Type} (j:Int->Option R) (f:Nat):J7 R:=(M1 j f).2
end aK
def aK {R:Type}:aK.F R:=fun a0 a1 f=>aK.e a0 a1 (aK.L1 f ag) (aK.L7 f ag) f
abbrev bE.F (R:Type):Type:=Int->(Bool->Option R)->Option R
namespace bE
abbrev J5 (R:Type):Type:=Int->BA->Int->Option R
def t5 {R:Type} (u:J5 R) (f:Bool->Option R):J5 R :=
 fun x0 m j=>(bif (decide (j<(m.size:Int))) then (bF ((decide ((0:Int)<=j))&&(decide (j<(m.size:Int)))) (bif ((dM m j) == x0) then (f false) else (u x0 m (IntKind.wrap .i64 (j+1))))) else (f true))
def e {R:Type} (a0:Int) (j:J5 R) (f:Bool->Option R):Option R :=
 (bif (decide (a0<(33:Int))) then (f false) else (bif (decide (a0>(126:Int))) then (f false) else (j a0 (⟨#[40,41,60,62,64,44,59,58,92,34,47,91,93,63,61]⟩:BA) 0)))
def L5 {R:Type} (j:Bool->Option R):Nat->J5 R
 | 0=>fun _ _ _=>none
 | f+1=>t5 (L5 j f) j
end bE
def bE {R:Type}:bE.F R:=fun a0 f=>bE.e a0 (bE.L5 f ag) f
abbrev aO.F (R:Type):Type:=BA->Int->(BA->Option R)->Option R
namespace aO
abbrev J2 (R:Type):Type:=BA->Int->Int->Option R
def t2 {R:Type} (c1:bE.F R) (z:J2 R) (u:BA->Option R):J2 R :=
 fun x0 j f=>(bif (decide (f<(x0.size:Int))) then (bF ((decide ((0:Int)<=f))&&(decide (f<(x0.size:Int)))) (c1 (dM x0 f) (fun m=>(bif m then (z x0 j (IntKind.wrap .i64 (f+1))) else (bF ((decide ((0:Int)<=j))&&((decide (j<=f))&&(decide (f<=(x0.size:Int))))) (u (x0.extract (j).toNat (f).toNat))))))) else (bF ((decide ((0:Int)<=j))&&((decide (j<=f))&&(decide (f<=(x0.size:Int))))) (u (x0.extract (j).toNat (f).toNat))))
def e {R:Type} (c1:bE.F R) (a0:BA) (a1:Int) (f:J2 R) (j:BA->Option R):Option R :=
 (f a0 a1 a1)
def L2 {R:Type} (c1:bE.F R) (j:BA->Option R):Nat->J2 R
 | 0=>fun _ _ _=>none
 | f+1=>t2 c1 (L2 c1 j f) j
end aO
def aO {R:Type}:aO.F R:=fun a0 a1 f=>aO.e bE a0 a1 (aO.L2 bE f ag) f
abbrev bc.F (R:Type):Type:=BA->(BA->Option R)->Option R
namespace bc
abbrev J3 (R:Type):Type:=BA->Int->LA->Option R
def t3 {R:Type} (m:J3 R) (u:BA->Option R):J3 R :=
 fun x0 f j=>(bif (decide (f<(x0.size:Int))) then (bF ((decide ((0:Int)<=f))&&(decide (f<(x0.size:Int)))) (bif (decide ((dM x0 f)>=(65:Int))) then (bif (decide ((dM x0 f)<=(90:Int))) then (bF (decide ((j.length+1)*1<=140737488355328)) (m x0 (IntKind.wrap .i64 (f+1)) (j++[AV.int (IntKind.wrap .u8 ((dM x0 f)+32))]))) else (bF (decide ((j.length+1)*1<=140737488355328)) (m x0 (IntKind.wrap .i64 (f+1)) (j++[AV.int (dM x0 f)])))) else (bF (decide ((j.length+1)*1<=140737488355328)) (m x0 (IntKind.wrap .i64 (f+1)) (j++[AV.int (dM x0 f)]))))) else (u (fE j)))
def e {R:Type} (a0:BA) (f:J3 R) (j:BA->Option R):Option R :=
 (f a0 0 ([]:LA))
def L3 {R:Type} (j:BA->Option R):Nat->J3 R
 | 0=>fun _ _ _=>none
 | f+1=>t3 (L3 j f) j
end bc
def bc {R:Type}:bc.F R:=fun a0 f=>bc.e a0 (bc.L3 f ag) f
abbrev cL.Q0 (R:Type):Type:=BA->Int->Bool->Option R
abbrev cL.F (R:Type):Type:=BA->Int->cL.Q0 R->Option R
namespace cL
abbrev J8 (R:Type):Type:=BA->Int->Int->LA->Option R
def t8 {R:Type} (z:J8 R) (m:Q0 R):J8 R :=
 fun x0 u f j=>(bif (decide (f<(x0.size:Int))) then (bF ((decide ((0:Int)<=f))&&(decide (f<(x0.size:Int)))) (bif ((dM x0 f) == 34) then (m (fE j) (IntKind.wrap .i64 (f+1)) true) else (bF ((decide ((0:Int)<=f))&&(decide (f<(x0.size:Int)))) (bif ((dM x0 f) == 92) then (bif (decide ((IntKind.wrap .i64 (f+1))<(x0.size:Int))) then (bF ((decide ((0:Int)<=(IntKind.wrap .i64 (f+1))))&&(decide ((IntKind.wrap .i64 (f+1))<(x0.size:Int)))) (bF (decide ((j.length+1)*1<=140737488355328)) (z x0 u (IntKind.wrap .i64 ((IntKind.wrap .i64 (f+1))+1)) (j++[AV.int (dM x0 (IntKind.wrap .i64 (f+1)))])))) else (bF ((decide ((0:Int)<=f))&&(decide (f<(x0.size:Int)))) (bF (decide ((j.length+1)*1<=140737488355328)) (z x0 u (IntKind.wrap .i64 (f+1)) (j++[AV.int (dM x0 f)]))))) else (bF ((decide ((0:Int)<=f))&&(decide (f<(x0.size:Int)))) (bF (decide ((j.length+1)*1<=140737488355328)) (z x0 u (IntKind.wrap .i64 (f+1)) (j++[AV.int (dM x0 f)])))))))) else (m (⟨#[]⟩:BA) u false))
def e {R:Type} (c1:aO.F R) (a0:BA) (a1:Int) (m:J8 R) (j:Q0 R):Option R :=
 (c1 a0 a1 (fun f=>(bif (!decide (f=(⟨#[]⟩:BA))) then (j f (IntKind.wrap .i64 (a1+(f.size:Int))) true) else (bif (decide (a1>=(a0.size:Int))) then (j (⟨#[]⟩:BA) a1 false) else (bF ((decide ((0:Int)<=a1))&&(decide (a1<(a0.size:Int)))) (bif ((dM a0 a1) != 34) then (j (⟨#[]⟩:BA) a1 false) else (m a0 a1 (IntKind.wrap .i64 (a1+1)) ([]:LA))))))))
def L8 {R:Type} (c1:aO.F R) (j:Q0 R):Nat->J8 R
 | 0=>fun _ _ _ _=>none
 | f+1=>t8 (L8 c1 j f) j
end cL
def cL {R:Type}:cL.F R:=fun a0 a1 f=>cL.e aO a0 a1 (cL.L8 aO f ag) f
abbrev bj.F (R:Type):Type:=BA->Int->(LA->Option R)->Option R
namespace bj
abbrev J2 (R:Type):Type:=BA->Int->LA->Option R
abbrev xW (R:Type):Type:=BA->Int->BA->BA->Bool->Int->LA->Option R
def t2 {R:Type} (c1:aK.F R) (c2:aO.F R) (c3:bc.F R) (c4:cL.F R) (W:xW R) (m:LA->Option R):J2 R :=
 fun x0 X A=>(bif (decide ((A.length:Int)<(12:Int))) then (c1 x0 X (fun f=>(bif (decide (f>=(x0.size:Int))) then (m A) else (bF ((decide ((0:Int)<=f))&&(decide (f<(x0.size:Int)))) (bif ((dM x0 f) != 59) then (m A) else (c1 x0 (IntKind.wrap .i64 (f+1)) (fun z=>(c2 x0 z (fun M=>(c3 M (fun u=>(c1 x0 (IntKind.wrap .i64 (z+(u.size:Int))) (fun j=>(bif (decide (u=(⟨#[]⟩:BA))) then (m A) else (bif (decide (j>=(x0.size:Int))) then (m A) else (bF ((decide ((0:Int)<=j))&&(decide (j<(x0.size:Int)))) (bif ((dM x0 j) != 61) then (m A) else (c1 x0 (IntKind.wrap .i64 (j+1)) (fun N=>(c4 x0 N (fun O U V=>(bif (!V) then (m A) else (W x0 U u O false 0 A))))))))))))))))))))))) else (m A))
def t17 {R:Type} (M:J2 R) (m:xW R):xW R :=
 fun x0 u z A N j f=>(bif (decide (j<(f.length:Int))) then (bif N then (m x0 u z A true (IntKind.wrap .i64 (j+1)) f) else (bF ((decide ((0:Int)<=j))&&(decide (j<(f.length:Int)))) (m x0 u z A (decide (((bf f j).fld 0).s=z)) (IntKind.wrap .i64 (j+1)) f))) else (bif (!N) then (bF (decide ((f.length+1)*32<=140737488355328)) (M x0 u (f++[AV.agg [AV.str z,AV.str A]]))) else (M x0 u f)))
def e {R:Type} (c1:aK.F R) (c2:aO.F R) (c3:bc.F R) (c4:cL.F R) (a0:BA) (a1:Int) (f:J2 R) (j:xW R) (m:LA->Option R):Option R :=
 (f a0 a1 ([]:LA))
def M2 {R:Type} (c1:aK.F R) (c2:aO.F R) (c3:bc.F R) (c4:cL.F R) (j:LA->Option R):Nat->(J2 R) × (xW R)
 | 0=>(fun _ _ _=>none,fun _ _ _ _ _ _ _=>none)
 | f+1=>(t2 c1 c2 c3 c4 ((M2 c1 c2 c3 c4 j f).2) j,
  t17 ((M2 c1 c2 c3 c4 j f).1) ((M2 c1 c2 c3 c4 j f).2))
def L2 {R:Type} (c1:aK.F R) (c2:aO.F R) (c3:bc.F R) (c4:cL.F R) (j:LA->Option R) (f:Nat):J2 R:=(M2 c1 c2 c3 c4 j f).1
def zj {R:Type} (c1:aK.F R) (c2:aO.F R) (c3:bc.F R) (c4:cL.F R) (j:LA->Option R) (f:Nat):xW R:=(M2 c1 c2 c3 c4 j f).2
end bj
def bj {R:Type}:bj.F R:=fun a0 a1 f=>bj.e aK aO bc cL a0 a1 (bj.L2 aK aO bc cL f ag) (bj.zj aK aO bc cL f ag) f
abbrev dj.Q0 (R:Type):Type:=BA->BA->LA->Option R
abbrev dj.F (R:Type):Type:=Bool->BA->Bool->dj.Q0 R->(BA->BA->Option R)->Option R
namespace dj
def e {R:Type} (c1:aK.F R) (c2:aO.F R) (c3:bc.F R) (c4:bj.F R) (a0:Bool) (a1:BA) (a2:Bool) (u:Q0 R) (z:BA->BA->Option R):Option R :=
 (c1 a1 0 (fun A=>(c2 a1 A (fun j=>(c1 a1 (IntKind.wrap .i64 (A+(j.size:Int))) (fun f=>(bif a0 then (bif (!decide (j=(⟨#[]⟩:BA))) then (bif (decide (f<(a1.size:Int))) then (bF ((decide ((0:Int)<=f))&&(decide (f<(a1.size:Int)))) (bif ((dM a1 f) == 47) then (c1 a1 (IntKind.wrap .i64 (f+1)) (fun M=>(c2 a1 M (fun m=>(bif (!decide (m=(⟨#[]⟩:BA))) then (c3 j (fun N=>(c3 m (fun O=>(c4 a1 (IntKind.wrap .i64 (M+(m.size:Int))) (fun U=>(u N O U))))))) else (bif a2 then (z (⟨#[109,101,115,115,97,103,101]⟩:BA) (⟨#[114,102,99,56,50,50]⟩:BA)) else (u (⟨#[116,101,120,116]⟩:BA) (⟨#[112,108,97,105,110]⟩:BA) [AV.agg [AV.str (⟨#[99,104,97,114,115,101,116]⟩:BA),AV.str (⟨#[117,115,45,97,115,99,105,105]⟩:BA)]]))))))) else (bif a2 then (z (⟨#[109,101,115,115,97,103,101]⟩:BA) (⟨#[114,102,99,56,50,50]⟩:BA)) else (u (⟨#[116,101,120,116]⟩:BA) (⟨#[112,108,97,105,110]⟩:BA) [AV.agg [AV.str (⟨#[99,104,97,114,115,101,116]⟩:BA),AV.str (⟨#[117,115,45,97,115,99,105,105]⟩:BA)]])))) else (bif a2 then (z (⟨#[109,101,115,115,97,103,101]⟩:BA) (⟨#[114,102,99,56,50,50]⟩:BA)) else (u (⟨#[116,101,120,116]⟩:BA) (⟨#[112,108,97,105,110]⟩:BA) [AV.agg [AV.str (⟨#[99,104,97,114,115,101,116]⟩:BA),AV.str (⟨#[117,115,45,97,115,99,105,105]⟩:BA)]]))) else (bif a2 then (z (⟨#[109,101,115,115,97,103,101]⟩:BA) (⟨#[114,102,99,56,50,50]⟩:BA)) else (u (⟨#[116,101,120,116]⟩:BA) (⟨#[112,108,97,105,110]⟩:BA) [AV.agg [AV.str (⟨#[99,104,97,114,115,101,116]⟩:BA),AV.str (⟨#[117,115,45,97,115,99,105,105]⟩:BA)]]))) else (bif a2 then (z (⟨#[109,101,115,115,97,103,101]⟩:BA) (⟨#[114,102,99,56,50,50]⟩:BA)) else (u (⟨#[116,101,120,116]⟩:BA) (⟨#[112,108,97,105,110]⟩:BA) [AV.agg [AV.str (⟨#[99,104,97,114,115,101,116]⟩:BA),AV.str (⟨#[117,115,45,97,115,99,105,105]⟩:BA)]])))))))))
end dj
def dj {R:Type}:dj.F R:=fun a0 a1 a2 f j=>dj.e aK aO bc bj a0 a1 a2 f j
abbrev dv.F (R:Type):Type:=BA->(BA->Option R)->Option R
namespace dv
def t1 {R:Type} (f:BA->Option R) (j:BA->Option R):BA->Option R :=
 fun x0=>(bif (decide ((x0.size:Int)>(0:Int))) then (bF (decide ((0:Int)<(x0.size:Int))) (bif ((dM x0 0) == 32) then (bF ((decide ((1:Int)<=(x0.size:Int)))&&(decide ((x0.size:Int)<=(x0.size:Int)))) (f (x0.extract ((1:Int)).toNat ((x0.size:Int)).toNat))) else (bF (decide ((0:Int)<(x0.size:Int))) (bif ((dM x0 0) == 9) then (bF ((decide ((1:Int)<=(x0.size:Int)))&&(decide ((x0.size:Int)<=(x0.size:Int)))) (f (x0.extract ((1:Int)).toNat ((x0.size:Int)).toNat))) else (j x0))))) else (j x0))
def t3 {R:Type} (j:BA->Option R) (f:BA->Option R):BA->Option R :=
 fun x0=>(bif (decide ((x0.size:Int)>(0:Int))) then (bF ((decide ((0:Int)<=(IntKind.wrap .i64 ((x0.size:Int)-1))))&&(decide ((IntKind.wrap .i64 ((x0.size:Int)-1))<(x0.size:Int)))) (bif ((dM x0 (IntKind.wrap .i64 ((x0.size:Int)-1))) == 32) then (bF ((decide ((0:Int)<=(IntKind.wrap .i64 ((x0.size:Int)-1))))&&(decide ((IntKind.wrap .i64 ((x0.size:Int)-1))<=(x0.size:Int)))) (j (x0.extract ((0:Int)).toNat ((IntKind.wrap .i64 ((x0.size:Int)-1))).toNat))) else (bF ((decide ((0:Int)<=(IntKind.wrap .i64 ((x0.size:Int)-1))))&&(decide ((IntKind.wrap .i64 ((x0.size:Int)-1))<(x0.size:Int)))) (bif ((dM x0 (IntKind.wrap .i64 ((x0.size:Int)-1))) == 9) then (bF ((decide ((0:Int)<=(IntKind.wrap .i64 ((x0.size:Int)-1))))&&(decide ((IntKind.wrap .i64 ((x0.size:Int)-1))<=(x0.size:Int)))) (j (x0.extract ((0:Int)).toNat ((IntKind.wrap .i64 ((x0.size:Int)-1))).toNat))) else (f x0))))) else (f x0))
def e {R:Type} (a0:BA) (f:BA->Option R) (m:BA->Option R) (j:BA->Option R):Option R :=
 (f a0)
def L3 {R:Type} (j:BA->Option R):Nat->BA->Option R
 | 0=>fun _=>none
 | f+1=>t3 (L3 j f) j
def L1 {R:Type} (j:BA->Option R):Nat->BA->Option R
 | 0=>fun _=>none
 | f+1=>t1 (L1 j f) (L3 j f)
end dv
def dv {R:Type}:dv.F R:=fun a0 f=>dv.e a0 (dv.L1 f ag) (dv.L3 f ag) f
abbrev dp.F (R:Type):Type:=Bool->BA->(Bool->BA->Option R)->Option R
namespace dp
def e {R:Type} (c1:dv.F R) (a0:Bool) (a1:BA) (j:Bool->BA->Option R):Option R :=
 (bif (!a0) then (j false (⟨#[]⟩:BA)) else (c1 a1 (fun f=>(j true f))))
end dp
def dp {R:Type}:dp.F R:=fun a0 a1 f=>dp.e dv a0 a1 f
abbrev cR.Q0 (R:Type):Type:=Bool->BA->Int->Option R
abbrev cR.F (R:Type):Type:=Bool->BA->cR.Q0 R->Option R
namespace cR
def e {R:Type} (c1:aK.F R) (c2:aO.F R) (c3:bc.F R) (a0:Bool) (a1:BA) (m:Q0 R):Option R :=
 (c1 a1 0 (fun j=>(c2 a1 j (fun f=>(bif (!a0) then (m false (⟨#[]⟩:BA) 0) else (bif (decide (f=(⟨#[]⟩:BA))) then (m false (⟨#[]⟩:BA) 0) else (c3 f (fun u=>(m true u (IntKind.wrap .i64 (j+(f.size:Int))))))))))))
end cR
def cR {R:Type}:cR.F R:=fun a0 a1 f=>cR.e aK aO bc a0 a1 f
abbrev cA.F (R:Type):Type:=Bool->BA->(LA->Option R)->Option R
namespace cA
abbrev J3 (R:Type):Type:=Int->Bool->BA->LA->Option R
def t3 {R:Type} (c1:aK.F R) (c2:aO.F R) (c3:bc.F R) (O:J3 R) (u:LA->Option R):J3 R :=
 fun x0 N M A=>(bif N then (bif (decide ((A.length:Int)<(12:Int))) then (c1 M x0 (fun z=>(c2 M z (fun j=>(bif (decide (j=(⟨#[]⟩:BA))) then (u A) else (c3 j (fun m=>(bF (decide ((A.length+1)*16<=140737488355328)) (c1 M (IntKind.wrap .i64 (z+(j.size:Int))) (fun f=>(bif (decide (f>=(M.size:Int))) then (u (A++[AV.str m])) else (bF ((decide ((0:Int)<=f))&&(decide (f<(M.size:Int)))) (bif ((dM M f) != 44) then (u (A++[AV.str m])) else (O (IntKind.wrap .i64 (f+1)) N M (A++[AV.str m]))))))))))))))) else (u A)) else (u A))
def e {R:Type} (c1:aK.F R) (c2:aO.F R) (c3:bc.F R) (a0:Bool) (a1:BA) (f:J3 R) (j:LA->Option R):Option R :=
 (f 0 a0 a1 ([]:LA))
def L3 {R:Type} (c1:aK.F R) (c2:aO.F R) (c3:bc.F R) (j:LA->Option R):Nat->J3 R
 | 0=>fun _ _ _ _=>none
 | f+1=>t3 c1 c2 c3 (L3 c1 c2 c3 j f) j
end cA
def cA {R:Type}:cA.F R:=fun a0 a1 f=>cA.e aK aO bc a0 a1 (cA.L3 aK aO bc f ag) f
abbrev aY.Q0 (R:Type):Type:=BA->BA->BA->LA->Bool->BA->Bool->BA->Bool->BA->Bool->BA->LA->LA->Bool->BA->Int->Int->Int->Int->Int->Option R
abbrev aY.F (R:Type):Type:=BA->Int->Int->BA->Bool->aY.Q0 R->Option R
namespace aY
abbrev J6 (R:Type):Type:=BA->BA->BA->Bool->BA->Bool->BA->Bool->BA->Bool->BA->Bool->BA->Int->Int->Int->Int->Int->LA->BA->BA->BA->Bool->BA->Bool->BA->Bool->BA->Bool->BA->Bool->BA->Int->Int->Int->Int->Int->LA->Option R
abbrev Gc (R:Type):Type:=BA->BA->BA->Bool->BA->Bool->BA->Bool->BA->Bool->BA->Bool->BA->Int->Int->Int->Int->Int->BA->BA->BA->LA->Bool->BA->Bool->BA->Bool->BA->Bool->BA->LA->LA->Bool->BA->Int->Int->Int->Int->Int->Option R
def t6 {R:Type} (c3:dw.F R) (c5:dp.F R) (c6:cR.F R) (c7:bj.F R) (c8:cA.F R) (bS:Gc R):J6 R :=
 fun x0 x1 x2 x3 x4 x5 x6 x7 x8 x9 bV b0 b1 b2 b3 b4 b5 b' f ca cl cp eb ed ei ek en ep et ey e0 e1 ct c0 c' dg dr d'=>(c3 f (⟨#[67,111,110,116,101,110,116,45,73,100]⟩:BA) (fun X Y=>(c5 X Y (fun m u=>(c3 f (⟨#[67,111,110,116,101,110,116,45,68,101,115,99,114,105,112,116,105,111,110]⟩:BA) (fun ad ae=>(c5 ad ae (fun z A=>(c3 f (⟨#[67,111,110,116,101,110,116,45,76,111,99,97,116,105,111,110]⟩:BA) (fun ap ar=>(c5 ap ar (fun M N=>(c3 f (⟨#[67,111,110,116,101,110,116,45,84,114,97,110,115,102,101,114,45,69,110,99,111,100,105,110,103]⟩:BA) (fun ax a1=>(c6 ax a1 (fun O U ea=>(c3 f (⟨#[67,111,110,116,101,110,116,45,68,105,115,112,111,115,105,116,105,111,110]⟩:BA) (fun a6 V=>(c6 a6 V (fun j W a7=>(bif j then (c7 V a7 (fun a8=>(c3 f (⟨#[67,111,110,116,101,110,116,45,76,97,110,103,117,97,103,101]⟩:BA) (fun bb be=>(c8 bb be (fun bk=>(bS x0 x1 x2 x3 x4 x5 x6 x7 x8 x9 bV b0 b1 b2 b3 b4 b5 b' ca cl cp d' m u z A O U j W a8 bk M N ct c0 c' dg dr))))))) else (c3 f (⟨#[67,111,110,116,101,110,116,45,76,97,110,103,117,97,103,101]⟩:BA) (fun bs bx=>(c8 bs bx (fun bP=>(bS x0 x1 x2 x3 x4 x5 x6 x7 x8 x9 bV b0 b1 b2 b3 b4 b5 b' ca cl cp d' m u z A O U j W ([]:LA) bP M N ct c0 c' dg dr))))))))))))))))))))))))))
def t16 {R:Type} (f:Q0 R):Gc R :=
 fun x0 x1 x2 x3 x4 x5 x6 x7 x8 x9 a8 bb be bk bs bx bP bS j m u z A M N O U V W X Y ad ae ap ar ax a1 a6 a7=>(f j m u z A M N O U V W X Y ad ae ap ar ax a1 a6 a7)
def e {R:Type} (c1:cG.F R) (c2:ch.F R) (c3:dw.F R) (c4:dj.F R) (c5:dp.F R) (c6:cR.F R) (c7:bj.F R) (c8:cA.F R) (a0:BA) (a1:Int) (a2:Int) (a3:BA) (a4:Bool) (V:J6 R) (W:Gc R) (X:Q0 R):Option R :=
 (bF ((decide ((0:Int)<=a1))&&((decide (a1<=a2))&&(decide (a2<=(a0.size:Int))))) (c1 (a0.extract (a1).toNat (a2).toNat) (fun f U=>(c2 f (fun j=>(c3 j (⟨#[67,111,110,116,101,110,116,45,84,121,112,101]⟩:BA) (fun m u=>(c4 m u a4 (fun z A M=>(V (⟨#[]⟩:BA) (⟨#[]⟩:BA) (⟨#[]⟩:BA) false (⟨#[]⟩:BA) false (⟨#[]⟩:BA) false (⟨#[]⟩:BA) false (⟨#[]⟩:BA) false (⟨#[]⟩:BA) 0 0 0 0 0 j a3 z A false (⟨#[]⟩:BA) false (⟨#[]⟩:BA) false (⟨#[]⟩:BA) false (⟨#[]⟩:BA) false (⟨#[]⟩:BA) a1 (IntKind.wrap .i64 (a1+(f.size:Int))) (IntKind.wrap .i64 (a1+(f.size:Int))) a2 0 M)) (fun N O=>(V (⟨#[]⟩:BA) (⟨#[]⟩:BA) (⟨#[]⟩:BA) false (⟨#[]⟩:BA) false (⟨#[]⟩:BA) false (⟨#[]⟩:BA) false (⟨#[]⟩:BA) false (⟨#[]⟩:BA) 0 0 0 0 0 j a3 N O false (⟨#[]⟩:BA) false (⟨#[]⟩:BA) false (⟨#[]⟩:BA) false (⟨#[]⟩:BA) false (⟨#[]⟩:BA) a1 (IntKind.wrap .i64 (a1+(f.size:Int))) (IntKind.wrap .i64 (a1+(f.size:Int))) a2 0 ([]:LA)))))))))))
def Eg {R:Type} (c1:cG.F R) (c2:ch.F R) (c3:dw.F R) (c4:dj.F R) (c5:dp.F R) (c6:cR.F R) (c7:bj.F R) (c8:cA.F R) (j:Q0 R):Nat->Gc R
 | 0=>fun _ _ _ _ _ _ _ _ _ _ _ _ _ _ _ _ _ _ _ _ _ _ _ _ _ _ _ _ _ _ _ _ _ _ _ _ _ _ _=>none
 | f+1=>t16 j
def L6 {R:Type} (c1:cG.F R) (c2:ch.F R) (c3:dw.F R) (c4:dj.F R) (c5:dp.F R) (c6:cR.F R) (c7:bj.F R) (c8:cA.F R) (j:Q0 R):Nat->J6 R
 | 0=>fun _ _ _ _ _ _ _ _ _ _ _ _ _ _ _ _ _ _ _ _ _ _ _ _ _ _ _ _ _ _ _ _ _ _ _ _ _ _=>none
 | f+1=>t6 c3 c5 c6 c7 c8 (Eg c1 c2 c3 c4 c5 c6 c7 c8 j f)
end aY
def aY {R:Type}:aY.F R:=fun a0 a1 a2 a3 a4 f=>aY.e cG ch dw dj dp cR bj cA a0 a1 a2 a3 a4 (aY.L6 cG ch dw dj dp cR bj cA f ag) (aY.Eg cG ch dw dj dp cR bj cA f ag) f
abbrev bH.F (R:Type):Type:=BA->(Int->Option R)->Option R
namespace bH
abbrev J3 (R:Type):Type:=BA->Int->Int->Option R
def t3 {R:Type} (m:J3 R) (u:Int->Option R):J3 R :=
 fun x0 j f=>(bif (decide ((IntKind.wrap .i64 (f+1))<(x0.size:Int))) then (bF ((decide ((0:Int)<=f))&&(decide (f<(x0.size:Int)))) (bif ((dM x0 f) == 13) then (bF ((decide ((0:Int)<=(IntKind.wrap .i64 (f+1))))&&(decide ((IntKind.wrap .i64 (f+1))<(x0.size:Int)))) (bif ((dM x0 (IntKind.wrap .i64 (f+1))) == 10) then (m x0 (IntKind.wrap .i64 (j+1)) (IntKind.wrap .i64 (f+1))) else (m x0 j (IntKind.wrap .i64 (f+1))))) else (m x0 j (IntKind.wrap .i64 (f+1))))) else (u j))
def e {R:Type} (a0:BA) (f:J3 R) (j:Int->Option R):Option R :=
 (f a0 0 0)
def L3 {R:Type} (j:Int->Option R):Nat->J3 R
 | 0=>fun _ _ _=>none
 | f+1=>t3 (L3 j f) j
end bH
def bH {R:Type}:bH.F R:=fun a0 f=>bH.e a0 (bH.L3 f ag) f
abbrev cS.F (R:Type):Type:=LA->BA->(BA->Option R)->Option R
namespace cS
abbrev J2 (R:Type):Type:=LA->BA->Int->Option R
def t2 {R:Type} (u:J2 R) (j:BA->Option R):J2 R :=
 fun x0 m f=>(bif (decide (f<(x0.length:Int))) then (bF ((decide ((0:Int)<=f))&&(decide (f<(x0.length:Int)))) (bif (decide (((bf x0 f).fld 0).s=m)) then (bF ((decide ((0:Int)<=f))&&(decide (f<(x0.length:Int)))) (j ((bf x0 f).fld 1).s)) else (u x0 m (IntKind.wrap .i64 (f+1))))) else (j (⟨#[]⟩:BA)))
def e {R:Type} (a0:LA) (a1:BA) (f:J2 R) (j:BA->Option R):Option R :=
 (f a0 a1 0)
def L2 {R:Type} (j:BA->Option R):Nat->J2 R
 | 0=>fun _ _ _=>none
 | f+1=>t2 (L2 j f) j
end cS
def cS {R:Type}:cS.F R:=fun a0 a1 f=>cS.e a0 a1 (cS.L2 f ag) f
abbrev cq.F (R:Type):Type:=BA->(Bool->Option R)->Option R
namespace cq
def t2 {R:Type} (m:BA->Int->Option R) (j:Bool->Option R):BA->Int->Option R :=
 fun x0 f=>(bif (decide ((IntKind.wrap .i64 (f+1))<(x0.size:Int))) then (bF ((decide ((0:Int)<=f))&&(decide (f<(x0.size:Int)))) (bif ((dM x0 f) == 13) then (bF ((decide ((0:Int)<=(IntKind.wrap .i64 (f+1))))&&(decide ((IntKind.wrap .i64 (f+1))<(x0.size:Int)))) (bif ((dM x0 (IntKind.wrap .i64 (f+1))) == 10) then (j true) else (m x0 (IntKind.wrap .i64 (f+1))))) else (m x0 (IntKind.wrap .i64 (f+1))))) else (j false))
def e {R:Type} (a0:BA) (f:BA->Int->Option R) (j:Bool->Option R):Option R :=
 (f a0 0)
def L2 {R:Type} (j:Bool->Option R):Nat->BA->Int->Option R
 | 0=>fun _ _=>none
 | f+1=>t2 (L2 j f) j
end cq
def cq {R:Type}:cq.F R:=fun a0 f=>cq.e a0 (cq.L2 f ag) f
abbrev bK.F (R:Type):Type:=BA->Int->BA->(Int->Int->Option R)->Option R
namespace bK
abbrev J9 (R:Type):Type:=BA->Int->Int->Option R
def t9 {R:Type} (u:J9 R) (j:Int->Int->Option R):J9 R :=
 fun x0 f m=>(bif (decide (f<(x0.size:Int))) then (bF ((decide ((0:Int)<=f))&&(decide (f<(x0.size:Int)))) (bif ((dM x0 f) == 32) then (u x0 (IntKind.wrap .i64 (f+1)) m) else (bF ((decide ((0:Int)<=f))&&(decide (f<(x0.size:Int)))) (bif ((dM x0 f) == 9) then (u x0 (IntKind.wrap .i64 (f+1)) m) else (bif (f == (x0.size:Int)) then (j m f) else (bif (decide ((IntKind.wrap .i64 (f+2))<=(x0.size:Int))) then (bF ((decide ((0:Int)<=f))&&(decide (f<(x0.size:Int)))) (bif ((dM x0 f) == 13) then (bF ((decide ((0:Int)<=(IntKind.wrap .i64 (f+1))))&&(decide ((IntKind.wrap .i64 (f+1))<(x0.size:Int)))) (bif ((dM x0 (IntKind.wrap .i64 (f+1))) == 10) then (j m (IntKind.wrap .i64 (f+2))) else (j 0 0))) else (j 0 0))) else (j 0 0))))))) else (bif (f == (x0.size:Int)) then (j m f) else (bif (decide ((IntKind.wrap .i64 (f+2))<=(x0.size:Int))) then (bF ((decide ((0:Int)<=f))&&(decide (f<(x0.size:Int)))) (bif ((dM x0 f) == 13) then (bF ((decide ((0:Int)<=(IntKind.wrap .i64 (f+1))))&&(decide ((IntKind.wrap .i64 (f+1))<(x0.size:Int)))) (bif ((dM x0 (IntKind.wrap .i64 (f+1))) == 10) then (j m (IntKind.wrap .i64 (f+2))) else (j 0 0))) else (j 0 0))) else (j 0 0))))
def e {R:Type} (a0:BA) (a1:Int) (a2:BA) (j:J9 R) (f:Int->Int->Option R):Option R :=
 (bif (decide ((IntKind.wrap .i64 ((IntKind.wrap .i64 (a1+2))+(a2.size:Int)))>(a0.size:Int))) then (f 0 0) else (bF ((decide ((0:Int)<=a1))&&((decide (a1<=(IntKind.wrap .i64 (a1+2))))&&(decide ((IntKind.wrap .i64 (a1+2))<=(a0.size:Int))))) (bif (!decide ((a0.extract (a1).toNat ((IntKind.wrap .i64 (a1+2))).toNat)=(⟨#[45,45]⟩:BA))) then (f 0 0) else (bF ((decide ((0:Int)<=(IntKind.wrap .i64 (a1+2))))&&((decide ((IntKind.wrap .i64 (a1+2))<=(IntKind.wrap .i64 ((IntKind.wrap .i64 (a1+2))+(a2.size:Int)))))&&(decide ((IntKind.wrap .i64 ((IntKind.wrap .i64 (a1+2))+(a2.size:Int)))<=(a0.size:Int))))) (bif (!decide ((a0.extract ((IntKind.wrap .i64 (a1+2))).toNat ((IntKind.wrap .i64 ((IntKind.wrap .i64 (a1+2))+(a2.size:Int)))).toNat)=a2)) then (f 0 0) else (bif (decide ((IntKind.wrap .i64 ((IntKind.wrap .i64 ((IntKind.wrap .i64 (a1+2))+(a2.size:Int)))+2))<=(a0.size:Int))) then (bF ((decide ((0:Int)<=(IntKind.wrap .i64 ((IntKind.wrap .i64 (a1+2))+(a2.size:Int)))))&&((decide ((IntKind.wrap .i64 ((IntKind.wrap .i64 (a1+2))+(a2.size:Int)))<=(IntKind.wrap .i64 ((IntKind.wrap .i64 ((IntKind.wrap .i64 (a1+2))+(a2.size:Int)))+2))))&&(decide ((IntKind.wrap .i64 ((IntKind.wrap .i64 ((IntKind.wrap .i64 (a1+2))+(a2.size:Int)))+2))<=(a0.size:Int))))) (bif (decide ((a0.extract ((IntKind.wrap .i64 ((IntKind.wrap .i64 (a1+2))+(a2.size:Int)))).toNat ((IntKind.wrap .i64 ((IntKind.wrap .i64 ((IntKind.wrap .i64 (a1+2))+(a2.size:Int)))+2))).toNat)=(⟨#[45,45]⟩:BA))) then (j a0 (IntKind.wrap .i64 ((IntKind.wrap .i64 ((IntKind.wrap .i64 (a1+2))+(a2.size:Int)))+2)) 2) else (j a0 (IntKind.wrap .i64 ((IntKind.wrap .i64 (a1+2))+(a2.size:Int))) 1))) else (j a0 (IntKind.wrap .i64 ((IntKind.wrap .i64 (a1+2))+(a2.size:Int))) 1)))))))
def L9 {R:Type} (j:Int->Int->Option R):Nat->J9 R
 | 0=>fun _ _ _=>none
 | f+1=>t9 (L9 j f) j
end bK
def bK {R:Type}:bK.F R:=fun a0 a1 a2 f=>bK.e a0 a1 a2 (bK.L9 f ag) f
abbrev cw.F (R:Type):Type:=BA->Int->(Int->Option R)->Option R
namespace cw
def t2 {R:Type} (m:BA->Int->Option R) (j:Int->Option R):BA->Int->Option R :=
 fun x0 f=>(bif (decide ((IntKind.wrap .i64 (f+1))<(x0.size:Int))) then (bF ((decide ((0:Int)<=f))&&(decide (f<(x0.size:Int)))) (bif ((dM x0 f) == 13) then (bF ((decide ((0:Int)<=(IntKind.wrap .i64 (f+1))))&&(decide ((IntKind.wrap .i64 (f+1))<(x0.size:Int)))) (bif ((dM x0 (IntKind.wrap .i64 (f+1))) == 10) then (j (IntKind.wrap .i64 (f+2))) else (m x0 (IntKind.wrap .i64 (f+1))))) else (m x0 (IntKind.wrap .i64 (f+1))))) else (j (x0.size:Int)))
def e {R:Type} (a0:BA) (a1:Int) (f:BA->Int->Option R) (j:Int->Option R):Option R :=
 (f a0 a1)
def L2 {R:Type} (j:Int->Option R):Nat->BA->Int->Option R
 | 0=>fun _ _=>none
 | f+1=>t2 (L2 j f) j
end cw
def cw {R:Type}:cw.F R:=fun a0 a1 f=>cw.e a0 a1 (cw.L2 f ag) f
abbrev cJ.F (R:Type):Type:=BA->BA->(LA->Option R)->Option R
namespace cJ
abbrev J4 (R:Type):Type:=BA->BA->Int->Int->LA->Option R
def t4 {R:Type} (c1:bK.F R) (c2:cw.F R) (O:J4 R) (m:LA->Option R):J4 R :=
 fun x0 N z M u=>(bif (decide (M<(x0.size:Int))) then (c1 x0 M N (fun j f=>(bif (decide (j>(0:Int))) then (bif (decide (z>=(0:Int))) then (bF (decide ((u.length+1)*16<=140737488355328)) (bif (j == 2) then (m (u++[AV.agg [AV.int z,AV.int (max2 z (IntKind.wrap .i64 (M-2)))]])) else (O x0 N f f (u++[AV.agg [AV.int z,AV.int (max2 z (IntKind.wrap .i64 (M-2)))]])))) else (bif (j == 2) then (m u) else (O x0 N f f u))) else (c2 x0 M (fun A=>(O x0 N z A u)))))) else (bif (decide (z>=(0:Int))) then (bF (decide ((u.length+1)*16<=140737488355328)) (m (u++[AV.agg [AV.int z,AV.int (x0.size:Int)]]))) else (m u)))
def e {R:Type} (c1:bK.F R) (c2:cw.F R) (a0:BA) (a1:BA) (f:J4 R) (j:LA->Option R):Option R :=
 (f a0 a1 (-1) 0 ([]:LA))
def L4 {R:Type} (c1:bK.F R) (c2:cw.F R) (j:LA->Option R):Nat->J4 R
 | 0=>fun _ _ _ _ _=>none
 | f+1=>t4 c1 c2 (L4 c1 c2 j f) j
end cJ
def cJ {R:Type}:cJ.F R:=fun a0 a1 f=>cJ.e bK cw a0 a1 (cJ.L4 bK cw f ag) f
abbrev aS.F (R:Type):Type:=BA->BA->BA->BA->LA->Bool->BA->Bool->BA->Bool->BA->Bool->BA->LA->LA->Bool->BA->Int->Int->Int->Int->Int->Option R->(LA->Option R)->Option R
namespace aS
abbrev ui (R:Type):Type:=Int->BA->BA->BA->LA->Bool->BA->Bool->BA->Bool->BA->Bool->BA->LA->LA->Bool->BA->Int->Int->Int->Int->Int->LA->Option R
def t11 {R:Type} (m:ui R) (u:LA->Option R):ui R :=
 fun x0 x1 x2 x3 x4 x5 x6 x7 x8 x9 z A M N O U V W X j Y ad f=>(bif (decide (x0<(f.length:Int))) then (bF ((decide ((0:Int)<=x0))&&(decide (x0<(f.length:Int)))) (bF ((decide ((0:Int)<=x0))&&(decide (x0<(f.length:Int)))) (bF ((decide ((0:Int)<=x0))&&(decide (x0<((eA f x0 (AV.agg [AV.int (IntKind.wrap .i64 (((bf f x0).fld 0).i+j)),AV.int ((bf f x0).fld 1).i])).length:Int)))) (bF ((decide ((0:Int)<=x0))&&(decide (x0<((eA f x0 (AV.agg [AV.int (IntKind.wrap .i64 (((bf f x0).fld 0).i+j)),AV.int ((bf f x0).fld 1).i])).length:Int)))) (m (IntKind.wrap .i64 (x0+1)) x1 x2 x3 x4 x5 x6 x7 x8 x9 z A M N O U V W X j Y ad (eA (eA f x0 (AV.agg [AV.int (IntKind.wrap .i64 (((bf f x0).fld 0).i+j)),AV.int ((bf f x0).fld 1).i])) x0 (AV.agg [AV.int ((bf (eA f x0 (AV.agg [AV.int (IntKind.wrap .i64 (((bf f x0).fld 0).i+j)),AV.int ((bf f x0).fld 1).i])) x0).fld 0).i,AV.int (IntKind.wrap .i64 (((bf (eA f x0 (AV.agg [AV.int (IntKind.wrap .i64 (((bf f x0).fld 0).i+j)),AV.int ((bf f x0).fld 1).i])) x0).fld 1).i+j))]))))))) else (u f))
def e {R:Type} (c1:cS.F R) (c2:cq.F R) (c3:cJ.F R) (a0:BA) (a1:BA) (a2:BA) (a3:BA) (a4:LA) (a5:Bool) (a6:BA) (a7:Bool) (a8:BA) (a9:Bool) (z:BA) (V:Bool) (a12:BA) (W:LA) (X:LA) (Y:Bool) (ad:BA) (ae:Int) (ap:Int) (f:Int) (a20:Int) (a21:Int) (ar:ui R) (j:Option R) (A:LA->Option R):Option R :=
 (bif (decide (a2=(⟨#[109,101,115,115,97,103,101]⟩:BA))) then (bif (decide (a3=(⟨#[114,102,99,56,50,50]⟩:BA))) then (bif a9 then (bif (!decide (z=(⟨#[55,98,105,116]⟩:BA))) then (bif (!decide (z=(⟨#[56,98,105,116]⟩:BA))) then (bif (!decide (z=(⟨#[98,105,110,97,114,121]⟩:BA))) then j else (A [AV.agg [AV.int f,AV.int a20]])) else (A [AV.agg [AV.int f,AV.int a20]])) else (A [AV.agg [AV.int f,AV.int a20]])) else (A [AV.agg [AV.int f,AV.int a20]])) else (c1 a4 (⟨#[98,111,117,110,100,97,114,121]⟩:BA) (fun m=>(bif (!decide (a2=(⟨#[109,117,108,116,105,112,97,114,116]⟩:BA))) then j else (bif (decide ((m.size:Int)<(1:Int))) then j else (bif (decide ((m.size:Int)>(70:Int))) then j else (c2 m (fun M=>(bif M then j else (bF ((decide ((0:Int)<=f))&&((decide (f<=a20))&&(decide (a20<=(a0.size:Int))))) (c3 (a0.extract (f).toNat (a20).toNat) m (fun N=>(ar 0 a1 a2 a3 a4 a5 a6 a7 a8 a9 z V a12 W X Y ad ae ap f a20 a21 N))))))))))))) else (c1 a4 (⟨#[98,111,117,110,100,97,114,121]⟩:BA) (fun u=>(bif (!decide (a2=(⟨#[109,117,108,116,105,112,97,114,116]⟩:BA))) then j else (bif (decide ((u.size:Int)<(1:Int))) then j else (bif (decide ((u.size:Int)>(70:Int))) then j else (c2 u (fun O=>(bif O then j else (bF ((decide ((0:Int)<=f))&&((decide (f<=a20))&&(decide (a20<=(a0.size:Int))))) (c3 (a0.extract (f).toNat (a20).toNat) u (fun U=>(ar 0 a1 a2 a3 a4 a5 a6 a7 a8 a9 z V a12 W X Y ad ae ap f a20 a21 U)))))))))))))
def sN {R:Type} (c1:cS.F R) (c2:cq.F R) (c3:cJ.F R) (m:Option R) (j:LA->Option R):Nat->ui R
 | 0=>fun _ _ _ _ _ _ _ _ _ _ _ _ _ _ _ _ _ _ _ _ _ _ _=>none
 | f+1=>t11 (sN c1 c2 c3 m j f) j
end aS
def aS {R:Type}:aS.F R:=fun a0 a1 a2 a3 a4 a5 W X Y a9 m u a12 z A M N O U V a20 a21 f j=>aS.e cS cq cJ a0 a1 a2 a3 a4 a5 W X Y a9 m u a12 z A M N O U V a20 a21 (aS.sN cS cq cJ f j ag) f j
abbrev bo.F (R:Type):Type:=Int->(BA->Option R)->Option R
namespace bo
def e {R:Type} (c1:bo.F R) (a0:Int) (m:BA->Option R):Option R :=
 (bif (decide (a0<(10:Int))) then (m (fE [AV.int (IntKind.wrap .u8 (IntKind.wrap .i64 (48+a0)))])) else (c1 (IntKind.wrap .i64 (Int.tdiv a0 10)) (fun f=>(c1 (Int.tmod a0 10) (fun j=>(bF (decide (f.size+j.size<=9223372036854775807)) (m (f++j))))))))
def B {R:Type} (c1:bo.F R):F R:=fun a0 f=>e c1 a0 f
def R {R:Type}:Nat->F R
 | 0=>fun _ _=>none
 | n+1=>B (bo.R n)
end bo
def bo {R:Type}:bo.F R:=bo.R ag
abbrev br.F (R:Type):Type:=BA->Int->(BA->Option R)->Option R
namespace br
def e {R:Type} (c1:bo.F R) (a0:BA) (a1:Int) (m:BA->Option R):Option R :=
 (bif (decide (a0=(⟨#[]⟩:BA))) then (c1 a1 (fun j=>(m j))) else (bF (decide (a0.size+(⟨#[46]⟩:BA).size<=9223372036854775807)) (c1 a1 (fun f=>(bF (decide ((a0++(⟨#[46]⟩:BA)).size+f.size<=9223372036854775807)) (m ((a0++(⟨#[46]⟩:BA))++f)))))))
end br
def br {R:Type}:br.F R:=fun a0 a1 f=>br.e bo a0 a1 f
abbrev au.Q0 (R:Type):Type:=BA->BA->BA->LA->Bool->BA->Bool->BA->Bool->BA->Bool->BA->LA->LA->Bool->BA->Int->Int->Int->Int->Int->LA->Int->Option R
abbrev au.F (R:Type):Type:=BA->BA->BA->BA->LA->Bool->BA->Bool->BA->Bool->BA->Bool->BA->LA->LA->Bool->BA->Int->Int->Int->Int->Int->Int->Bool->Int->au.Q0 R->Option R
namespace au
abbrev J2 (R:Type):Type:=BA->Int->Bool->Int->Bool->BA->BA->BA->LA->Bool->BA->Bool->BA->Bool->BA->Bool->BA->LA->LA->Bool->BA->Int->Int->Int->Int->Int->BA->BA->BA->Bool->BA->Bool->BA->Bool->BA->Bool->BA->Bool->BA->Int->Int->Int->Int->Int->Option R
abbrev J4 (R:Type):Type:=BA->Int->Bool->Int->Bool->BA->BA->BA->LA->Bool->BA->Bool->BA->Bool->BA->Bool->BA->LA->LA->Bool->BA->Int->Int->Int->Int->Int->BA->BA->BA->Bool->BA->Bool->BA->Bool->BA->Bool->BA->Bool->BA->Int->Int->Int->Int->Int->Option R
abbrev J5 (R:Type):Type:=Int->BA->BA->BA->LA->Bool->BA->Bool->BA->Bool->BA->Bool->BA->LA->LA->Bool->BA->Int->Int->Int->Int->Int->LA->BA->BA->BA->Bool->BA->Bool->BA->Bool->BA->Bool->BA->Bool->BA->Int->Int->Int->Int->Int->Option R
abbrev J7 (R:Type):Type:=BA->Int->Bool->Int->Bool->BA->BA->BA->LA->Bool->BA->Bool->BA->Bool->BA->Bool->BA->LA->LA->Bool->BA->Int->Int->Int->Int->Int->BA->BA->BA->Bool->BA->Bool->BA->Bool->BA->Bool->BA->Bool->BA->Int->Int->Int->Int->Int->LA->Option R
abbrev ui (R:Type):Type:=Int->BA->BA->BA->LA->Bool->BA->Bool->BA->Bool->BA->Bool->BA->LA->LA->Bool->BA->Int->Int->Int->Int->Int->LA->BA->BA->BA->Bool->BA->Bool->BA->Bool->BA->Bool->BA->Bool->BA->Int->Int->Int->Int->Int->Option R
abbrev AK (R:Type):Type:=BA->Int->Int->BA->BA->BA->BA->LA->Bool->BA->Bool->BA->Bool->BA->Bool->BA->LA->LA->Bool->BA->Int->Int->Int->Int->Int->BA->BA->BA->Bool->BA->Bool->BA->Bool->BA->Bool->BA->Bool->BA->Int->Int->Int->Int->Int->LA->Option R
abbrev zi (R:Type):Type:=Int->BA->BA->BA->LA->Bool->BA->Bool->BA->Bool->BA->Bool->BA->LA->LA->Bool->BA->Int->Int->Int->Int->Int->LA->BA->BA->BA->Bool->BA->Bool->BA->Bool->BA->Bool->BA->Bool->BA->Int->Int->Int->Int->Int->Option R
abbrev F1 (R:Type):Type:=BA->Int->Int->Int->BA->BA->BA->LA->Bool->BA->Bool->BA->Bool->BA->Bool->BA->LA->LA->Bool->BA->Int->Int->Int->Int->Int->LA->BA->BA->BA->Bool->BA->Bool->BA->Bool->BA->Bool->BA->Bool->BA->Int->Int->Int->Int->Int->LA->Option R
abbrev Gd (R:Type):Type:=Int->BA->BA->BA->LA->Bool->BA->Bool->BA->Bool->BA->Bool->BA->LA->LA->Bool->BA->Int->Int->Int->Int->Int->LA->BA->BA->BA->Bool->BA->Bool->BA->Bool->BA->Bool->BA->Bool->BA->Int->Int->Int->Int->Int->Option R
def t2 {R:Type} (c1:bH.F R) (j4:J4 R):J2 R :=
 fun x0 x1 x2 x3 x4 x5 x6 x7 x8 x9 u z A M N O U V W X Y ad ae f j b3 ap ar ax a1 a6 a7 a8 bb be bk bs bx bP bS bV b0 b1 b2=>(bif (decide (x6=(⟨#[116,101,120,116]⟩:BA))) then (bF ((decide ((0:Int)<=f))&&((decide (f<=j))&&(decide (j<=(x0.size:Int))))) (c1 (x0.extract (f).toNat (j).toNat) (fun m=>(j4 x0 x1 x2 x3 x4 x5 x6 x7 x8 x9 u z A M N O U V W X Y ad ae f j m ap ar ax a1 a6 a7 a8 bb be bk bs bx bP bS bV b0 b1 b2)))) else (j4 x0 x1 x2 x3 x4 x5 x6 x7 x8 x9 u z A M N O U V W X Y ad ae f j b3 ap ar ax a1 a6 a7 a8 bb be bk bs bx bP bS bV b0 b1 b2))
def t4 {R:Type} (c2:aS.F R) (j5:J5 R) (j7:J7 R):J4 R :=
 fun x0 x1 x2 x3 x4 x5 x6 x7 x8 x9 f j m u z A M N O U V W X Y ad ae ap ar ax a1 a6 a7 a8 bb be bk bs bx bP bS bV b0 b1 b2=>(bif (!decide (x6=(⟨#[109,117,108,116,105,112,97,114,116]⟩:BA))) then (bif (!x4) then (j5 x3 x5 x6 x7 x8 x9 f j m u z A M N O U V W X Y ad ae ([]:LA) ap ar ax a1 a6 a7 a8 bb be bk bs bx bP bS bV b0 b1 b2) else (c2 x0 x5 x6 x7 x8 x9 f j m u z A M N O U V W X Y ad ae (j7 x0 x1 x2 x3 x4 x5 x6 x7 x8 x9 f j m u z A M N O U V W X Y ad ae ap ar ax a1 a6 a7 a8 bb be bk bs bx bP bS bV b0 b1 b2 ([]:LA)) (fun b3=>(j7 x0 x1 x2 x3 x4 x5 x6 x7 x8 x9 f j m u z A M N O U V W X Y ad ae ap ar ax a1 a6 a7 a8 bb be bk bs bx bP bS bV b0 b1 b2 b3)))) else (c2 x0 x5 x6 x7 x8 x9 f j m u z A M N O U V W X Y ad ae (j7 x0 x1 x2 x3 x4 x5 x6 x7 x8 x9 f j m u z A M N O U V W X Y ad ae ap ar ax a1 a6 a7 a8 bb be bk bs bx bP bS bV b0 b1 b2 ([]:LA)) (fun b4=>(j7 x0 x1 x2 x3 x4 x5 x6 x7 x8 x9 f j m u z A M N O U V W X Y ad ae ap ar ax a1 a6 a7 a8 bb be bk bs bx bP bS bV b0 b1 b2 b4))))
def t5 {R:Type} (f:Q0 R):J5 R :=
 fun x0 x1 x2 x3 x4 x5 x6 x7 x8 x9 j m u z A M N O U V W X Y ad ae ap ar ax a1 a6 a7 a8 bb be bk bs bx bP bS bV b0=>(f x1 x2 x3 x4 x5 x6 x7 x8 x9 j m u z A M N O U V W X Y x0)
def t7 {R:Type} (c1:bH.F R) (c3:br.F R) (b5:ui R) (ca:AK R) (cl:F1 R):J7 R :=
 fun x0 x1 x2 x3 x4 x5 x6 x7 x8 x9 u z A M N O U V W X Y ad ae f j b4 ap ar ax a1 a6 a7 a8 bb be bk bs bx bP bS bV b0 b1 b2 m=>(bif ((m.length:Int) == 0) then (b5 x3 x5 (⟨#[97,112,112,108,105,99,97,116,105,111,110]⟩:BA) (⟨#[111,99,116,101,116,45,115,116,114,101,97,109]⟩:BA) ([]:LA) x9 u z A M N O U V W X Y ad ae f j b4 ([]:LA) ap ar ax a1 a6 a7 a8 bb be bk bs bx bP bS bV b0 b1 b2) else (bif (decide (x1>=(5:Int))) then (b5 x3 x5 (⟨#[97,112,112,108,105,99,97,116,105,111,110]⟩:BA) (⟨#[111,99,116,101,116,45,115,116,114,101,97,109]⟩:BA) ([]:LA) x9 u z A M N O U V W X Y ad ae f j b4 ([]:LA) ap ar ax a1 a6 a7 a8 bb be bk bs bx bP bS bV b0 b1 b2) else (bif (decide ((IntKind.wrap .i64 (x3+(m.length:Int)))>(16:Int))) then (b5 x3 x5 (⟨#[97,112,112,108,105,99,97,116,105,111,110]⟩:BA) (⟨#[111,99,116,101,116,45,115,116,114,101,97,109]⟩:BA) ([]:LA) x9 u z A M N O U V W X Y ad ae f j b4 ([]:LA) ap ar ax a1 a6 a7 a8 bb be bk bs bx bP bS bV b0 b1 b2) else (bif x4 then (bF ((decide ((0:Int)<=f))&&((decide (f<=j))&&(decide (j<=(x0.size:Int))))) (c1 (x0.extract (f).toNat (j).toNat) (fun b3=>(bif x2 then (c3 x5 1 (fun b'=>(ca x0 x1 (IntKind.wrap .i64 (x3+(m.length:Int))) b' x5 x6 x7 x8 x9 u z A M N O U V W X Y ad ae f j b3 ap ar ax a1 a6 a7 a8 bb be bk bs bx bP bS bV b0 b1 b2 m))) else (ca x0 x1 (IntKind.wrap .i64 (x3+(m.length:Int))) x5 x5 x6 x7 x8 x9 u z A M N O U V W X Y ad ae f j b3 ap ar ax a1 a6 a7 a8 bb be bk bs bx bP bS bV b0 b1 b2 m))))) else (cl x0 x1 (IntKind.wrap .i64 (x3+(m.length:Int))) 0 x5 x6 x7 x8 x9 u z A M N O U V W X Y ad ae f j b4 ([]:LA) ap ar ax a1 a6 a7 a8 bb be bk bs bx bP bS bV b0 b1 b2 m)))))
def t11 {R:Type} (f:Q0 R):ui R :=
 fun x0 x1 x2 x3 x4 x5 x6 x7 x8 x9 j m u z A M N O U V W X Y ad ae ap ar ax a1 a6 a7 a8 bb be bk bs bx bP bS bV b0=>(f x1 x2 x3 x4 x5 x6 x7 x8 x9 j m u z A M N O U V W X Y x0)
def t18 {R:Type} (c4:aY.F R) (c5:au.F R) (dr:zi R):AK R :=
 fun x0 x1 x2 x3 x4 x5 x6 x7 x8 x9 d' ea eb ed ei ek en ep et ey e0 e1 e2 e3 e4 e5 e' fl fo fr fs fu fz gb gr g' ha hb hc hd hf hg hh f=>(bF (decide ((0:Int)<(f.length:Int))) (c4 x0 ((bf f 0).fld 0).i ((bf f 0).fld 1).i x3 false (fun j m u z A M N O U V W X Y ad ae ap ar ax a1 a6 a7=>(c5 x0 j m u z A M N O U V W X Y ad ae ap ar ax a1 a6 a7 (IntKind.wrap .i64 (x1+1)) true x2 (fun a8 bb be bk bs bx bP bS bV b0 b1 b2 b3 b4 b5 b' ca cl cp ct c0 c' dg=>(dr dg x4 x5 x6 x7 x8 x9 d' ea eb ed ei ek en ep et ey e0 e1 e2 e3 e4 [AV.agg [AV.str a8,AV.str bb,AV.str be,AV.sl bk,AV.bool bs,AV.str bx,AV.bool bP,AV.str bS,AV.bool bV,AV.str b0,AV.bool b1,AV.str b2,AV.sl b3,AV.sl b4,AV.bool b5,AV.str b',AV.int ca,AV.int cl,AV.int cp,AV.int ct,AV.int c0,AV.sl c']] e5 e' fl fo fr fs fu fz gb gr g' ha hb hc hd hf hg hh))))))
def t20 {R:Type} (f:Q0 R):zi R :=
 fun x0 x1 x2 x3 x4 x5 x6 x7 x8 x9 j m u z A M N O U V W X Y ad ae ap ar ax a1 a6 a7 a8 bb be bk bs bx bP bS bV b0=>(f x1 x2 x3 x4 x5 x6 x7 x8 x9 j m u z A M N O U V W X Y x0)
def t22 {R:Type} (c3:br.F R) (c4:aY.F R) (c5:au.F R) (hk:F1 R) (hl:Gd R):F1 R :=
 fun x0 x1 x2 j x4 x5 x6 x7 x8 x9 eb ed ei ek en ep et ey e0 e1 e2 e3 e4 e5 e' m fl fo fr fs fu fz gb gr g' ha hb hc hd hf hg hh hi hj f=>(bif (decide (j<(f.length:Int))) then (bF ((decide ((0:Int)<=j))&&(decide (j<(f.length:Int)))) (c3 x4 (IntKind.wrap .i64 (j+1)) (fun u=>(c4 x0 ((bf f j).fld 0).i ((bf f j).fld 1).i u (decide (x6=(⟨#[100,105,103,101,115,116]⟩:BA))) (fun z A M N O U V W X Y ad ae ap ar ax a1 a6 a7 a8 bb be=>(c5 x0 z A M N O U V W X Y ad ae ap ar ax a1 a6 a7 a8 bb be (IntKind.wrap .i64 (x1+1)) false x2 (fun bk bs bx bP bS bV b0 b1 b2 b3 b4 b5 b' ca cl cp ct c0 c' dg dr d' ea=>(bF (decide ((m.length+1)*304<=140737488355328)) (hk x0 x1 ea (IntKind.wrap .i64 (j+1)) x4 x5 x6 x7 x8 x9 eb ed ei ek en ep et ey e0 e1 e2 e3 e4 e5 e' (m++[AV.agg [AV.str bk,AV.str bs,AV.str bx,AV.sl bP,AV.bool bS,AV.str bV,AV.bool b0,AV.str b1,AV.bool b2,AV.str b3,AV.bool b4,AV.str b5,AV.sl b',AV.sl ca,AV.bool cl,AV.str cp,AV.int ct,AV.int c0,AV.int c',AV.int dg,AV.int dr,AV.sl d']]) fl fo fr fs fu fz gb gr g' ha hb hc hd hf hg hh hi hj f))))))))) else (hl x2 x4 x5 x6 x7 x8 x9 eb ed ei ek en ep et ey e0 e1 e2 e3 e4 e5 e' m fl fo fr fs fu fz gb gr g' ha hb hc hd hf hg hh hi hj))
def t27 {R:Type} (f:Q0 R):Gd R :=
 fun x0 x1 x2 x3 x4 x5 x6 x7 x8 x9 j m u z A M N O U V W X Y ad ae ap ar ax a1 a6 a7 a8 bb be bk bs bx bP bS bV b0=>(f x1 x2 x3 x4 x5 x6 x7 x8 x9 j m u z A M N O U V W X Y x0)
def e {R:Type} (c1:bH.F R) (c2:aS.F R) (c3:br.F R) (c4:aY.F R) (c5:au.F R) (a0:BA) (a1:BA) (a2:BA) (a3:BA) (a4:LA) (a5:Bool) (W:BA) (X:Bool) (Y:BA) (a9:Bool) (f:BA) (j:Bool) (a12:BA) (m:LA) (u:LA) (z:Bool) (A:BA) (M:Int) (N:Int) (O:Int) (a20:Int) (a21:Int) (U:Int) (V:Bool) (a24:Int) (j2:J2 R) (j4:J4 R) (j5:J5 R) (j7:J7 R) (ad:ui R) (ae:AK R) (ap:zi R) (ar:F1 R) (ax:Gd R) (bb:Q0 R):Option R :=
 (bif (decide (a2=(⟨#[109,101,115,115,97,103,101]⟩:BA))) then (j2 a0 U V a24 (decide (a3=(⟨#[114,102,99,56,50,50]⟩:BA))) a1 a2 a3 a4 a5 W X Y a9 f j a12 m u z A M N O a20 a21 (⟨#[]⟩:BA) (⟨#[]⟩:BA) (⟨#[]⟩:BA) false (⟨#[]⟩:BA) false (⟨#[]⟩:BA) false (⟨#[]⟩:BA) false (⟨#[]⟩:BA) false (⟨#[]⟩:BA) 0 0 0 0 0) else (j2 a0 U V a24 false a1 a2 a3 a4 a5 W X Y a9 f j a12 m u z A M N O a20 a21 (⟨#[]⟩:BA) (⟨#[]⟩:BA) (⟨#[]⟩:BA) false (⟨#[]⟩:BA) false (⟨#[]⟩:BA) false (⟨#[]⟩:BA) false (⟨#[]⟩:BA) false (⟨#[]⟩:BA) 0 0 0 0 0))
def L5 {R:Type} (c1:bH.F R) (c2:aS.F R) (c3:br.F R) (c4:aY.F R) (c5:au.F R) (j:Q0 R):Nat->J5 R
 | 0=>fun _ _ _ _ _ _ _ _ _ _ _ _ _ _ _ _ _ _ _ _ _ _ _ _ _ _ _ _ _ _ _ _ _ _ _ _ _ _ _ _ _=>none
 | f+1=>t5 j
def sN {R:Type} (c1:bH.F R) (c2:aS.F R) (c3:br.F R) (c4:aY.F R) (c5:au.F R) (j:Q0 R):Nat->ui R
 | 0=>fun _ _ _ _ _ _ _ _ _ _ _ _ _ _ _ _ _ _ _ _ _ _ _ _ _ _ _ _ _ _ _ _ _ _ _ _ _ _ _ _ _=>none
 | f+1=>t11 j
def AL {R:Type} (c1:bH.F R) (c2:aS.F R) (c3:br.F R) (c4:aY.F R) (c5:au.F R) (j:Q0 R):Nat->zi R
 | 0=>fun _ _ _ _ _ _ _ _ _ _ _ _ _ _ _ _ _ _ _ _ _ _ _ _ _ _ _ _ _ _ _ _ _ _ _ _ _ _ _ _ _=>none
 | f+1=>t20 j
def zk {R:Type} (c1:bH.F R) (c2:aS.F R) (c3:br.F R) (c4:aY.F R) (c5:au.F R) (j:Q0 R):Nat->AK R
 | 0=>fun _ _ _ _ _ _ _ _ _ _ _ _ _ _ _ _ _ _ _ _ _ _ _ _ _ _ _ _ _ _ _ _ _ _ _ _ _ _ _ _ _ _ _ _=>none
 | f+1=>t18 c4 c5 (AL c1 c2 c3 c4 c5 j f)
def G3 {R:Type} (c1:bH.F R) (c2:aS.F R) (c3:br.F R) (c4:aY.F R) (c5:au.F R) (j:Q0 R):Nat->Gd R
 | 0=>fun _ _ _ _ _ _ _ _ _ _ _ _ _ _ _ _ _ _ _ _ _ _ _ _ _ _ _ _ _ _ _ _ _ _ _ _ _ _ _ _ _=>none
 | f+1=>t27 j
def Eh {R:Type} (c1:bH.F R) (c2:aS.F R) (c3:br.F R) (c4:aY.F R) (c5:au.F R) (j:Q0 R):Nat->F1 R
 | 0=>fun _ _ _ _ _ _ _ _ _ _ _ _ _ _ _ _ _ _ _ _ _ _ _ _ _ _ _ _ _ _ _ _ _ _ _ _ _ _ _ _ _ _ _ _ _=>none
 | f+1=>t22 c3 c4 c5 (Eh c1 c2 c3 c4 c5 j f) (G3 c1 c2 c3 c4 c5 j f)
def L7 {R:Type} (c1:bH.F R) (c2:aS.F R) (c3:br.F R) (c4:aY.F R) (c5:au.F R) (j:Q0 R):Nat->J7 R
 | 0=>fun _ _ _ _ _ _ _ _ _ _ _ _ _ _ _ _ _ _ _ _ _ _ _ _ _ _ _ _ _ _ _ _ _ _ _ _ _ _ _ _ _ _ _ _ _=>none
 | f+1=>t7 c1 c3 (sN c1 c2 c3 c4 c5 j f) (zk c1 c2 c3 c4 c5 j f) (Eh c1 c2 c3 c4 c5 j f)
def L4 {R:Type} (c1:bH.F R) (c2:aS.F R) (c3:br.F R) (c4:aY.F R) (c5:au.F R) (j:Q0 R):Nat->J4 R
 | 0=>fun _ _ _ _ _ _ _ _ _ _ _ _ _ _ _ _ _ _ _ _ _ _ _ _ _ _ _ _ _ _ _ _ _ _ _ _ _ _ _ _ _ _ _ _=>none
 | f+1=>t4 c2 (L5 c1 c2 c3 c4 c5 j f) (L7 c1 c2 c3 c4 c5 j f)
def L2 {R:Type} (c1:bH.F R) (c2:aS.F R) (c3:br.F R) (c4:aY.F R) (c5:au.F R) (j:Q0 R):Nat->J2 R
 | 0=>fun _ _ _ _ _ _ _ _ _ _ _ _ _ _ _ _ _ _ _ _ _ _ _ _ _ _ _ _ _ _ _ _ _ _ _ _ _ _ _ _ _ _ _ _=>none
 | f+1=>t2 c1 (L4 c1 c2 c3 c4 c5 j f)
def B {R:Type} (c1:bH.F R) (c2:aS.F R) (c3:br.F R) (c4:aY.F R) (c5:au.F R):F R:=fun a0 a1 a2 a3 a4 a5 X Y a8 a9 j m a12 u z A M N O U a20 a21 V W a24 f=>e c1 c2 c3 c4 c5 a0 a1 a2 a3 a4 a5 X Y a8 a9 j m a12 u z A M N O U a20 a21 V W a24 (L2 c1 c2 c3 c4 c5 f ag) (L4 c1 c2 c3 c4 c5 f ag) (L5 c1 c2 c3 c4 c5 f ag) (L7 c1 c2 c3 c4 c5 f ag) (sN c1 c2 c3 c4 c5 f ag) (zk c1 c2 c3 c4 c5 f ag) (AL c1 c2 c3 c4 c5 f ag) (Eh c1 c2 c3 c4 c5 f ag) (G3 c1 c2 c3 c4 c5 f ag) f
def R {R:Type}:Nat->F R
 | 0=>fun _ _ _ _ _ _ _ _ _ _ _ _ _ _ _ _ _ _ _ _ _ _ _ _ _ _=>none
 | n+1=>B bH aS br aY (au.R n)
end au
def au {R:Type}:au.F R:=au.R ag
abbrev b7.Q0 (R:Type):Type:=BA->BA->BA->LA->Bool->BA->Bool->BA->Bool->BA->Bool->BA->LA->LA->Bool->BA->Int->Int->Int->Int->Int->LA->Option R
abbrev b7.F (R:Type):Type:=BA->b7.Q0 R->Option R
namespace b7
def e {R:Type} (c1:aY.F R) (c2:au.F R) (a0:BA) (c':Q0 R):Option R :=
 (c1 a0 0 (a0.size:Int) (⟨#[]⟩:BA) false (fun f j m u z A M N O U V W X Y ad ae ap ar ax a1 a6=>(c2 a0 f j m u z A M N O U V W X Y ad ae ap ar ax a1 a6 0 true 0 (fun a7 a8 bb be bk bs bx bP bS bV b0 b1 b2 b3 b4 b5 b' ca cl cp ct c0 dg=>(c' a7 a8 bb be bk bs bx bP bS bV b0 b1 b2 b3 b4 b5 b' ca cl cp ct c0)))))
end b7
def b7 {R:Type}:b7.F R:=fun a0 f=>b7.e aY au a0 f
abbrev aR.F (R:Type):Type:=BA->BA->BA->LA->Bool->BA->Bool->BA->Bool->BA->Bool->BA->LA->LA->Bool->BA->Int->Int->Int->Int->Int->LA->(LA->Option R)->Option R
namespace aR
abbrev J5 (R:Type):Type:=Int->BA->BA->BA->LA->Bool->BA->Bool->BA->Bool->BA->Bool->BA->LA->LA->Bool->BA->Int->Int->Int->Int->Int->LA->LA->Option R
def t5 {R:Type} (c1:aR.F R) (j5:J5 R) (u:LA->Option R):J5 R :=
 fun x0 x1 x2 x3 x4 x5 x6 x7 x8 x9 z A M N O U V W X Y ad ae f m=>(bif (decide (x0<(f.length:Int))) then (bF ((decide ((0:Int)<=x0))&&(decide (x0<(f.length:Int)))) (c1 ((bf f x0).fld 0).s ((bf f x0).fld 1).s ((bf f x0).fld 2).s ((bf f x0).fld 3).l ((bf f x0).fld 4).b ((bf f x0).fld 5).s ((bf f x0).fld 6).b ((bf f x0).fld 7).s ((bf f x0).fld 8).b ((bf f x0).fld 9).s ((bf f x0).fld 10).b ((bf f x0).fld 11).s ((bf f x0).fld 12).l ((bf f x0).fld 13).l ((bf f x0).fld 14).b ((bf f x0).fld 15).s ((bf f x0).fld 16).i ((bf f x0).fld 17).i ((bf f x0).fld 18).i ((bf f x0).fld 19).i ((bf f x0).fld 20).i ((bf f x0).fld 21).l (fun j=>(bF (decide ((m.length+j.length)*16<=140737488355328)) (j5 (IntKind.wrap .i64 (x0+1)) x1 x2 x3 x4 x5 x6 x7 x8 x9 z A M N O U V W X Y ad ae f (m++j)))))) else (u m))
def e {R:Type} (c1:aR.F R) (a0:BA) (a1:BA) (a2:BA) (a3:LA) (a4:Bool) (a5:BA) (U:Bool) (V:BA) (W:Bool) (a9:BA) (f:Bool) (j:BA) (a12:LA) (m:LA) (u:Bool) (z:BA) (A:Int) (M:Int) (N:Int) (O:Int) (a20:Int) (a21:LA) (X:J5 R) (Y:LA->Option R):Option R :=
 (bF (decide (a0.size+(⟨#[46,49]⟩:BA).size<=9223372036854775807)) (bif (decide (a0=(⟨#[]⟩:BA))) then (X 0 a0 a1 a2 a3 a4 a5 U V W a9 f j a12 m u z A M N O a20 a21 [AV.str (⟨#[49]⟩:BA),AV.str (⟨#[49,46,49]⟩:BA),AV.str (⟨#[50]⟩:BA)]) else (X 0 a0 a1 a2 a3 a4 a5 U V W a9 f j a12 m u z A M N O a20 a21 [AV.str a0,AV.str (a0++(⟨#[46,49]⟩:BA))])))
def L5 {R:Type} (c1:aR.F R) (j:LA->Option R):Nat->J5 R
 | 0=>fun _ _ _ _ _ _ _ _ _ _ _ _ _ _ _ _ _ _ _ _ _ _ _ _=>none
 | f+1=>t5 c1 (L5 c1 j f) j
def B {R:Type} (c1:aR.F R):F R:=fun a0 a1 a2 a3 a4 a5 V W X a9 j m a12 u z A M N O U a20 a21 f=>e c1 a0 a1 a2 a3 a4 a5 V W X a9 j m a12 u z A M N O U a20 a21 (L5 c1 f ag) f
def R {R:Type}:Nat->F R
 | 0=>fun _ _ _ _ _ _ _ _ _ _ _ _ _ _ _ _ _ _ _ _ _ _ _=>none
 | n+1=>B (aR.R n)
end aR
def aR {R:Type}:aR.F R:=aR.R ag
abbrev cb.F (R:Type):Type:=BA->(Int->Option R)->Option R
namespace cb
abbrev J3 (R:Type):Type:=BA->Int->Int->Int->Option R
def t3 {R:Type} (z:J3 R) (j:Int->Option R):J3 R :=
 fun x0 m u f=>(bif (decide (f<u)) then (bF ((decide ((0:Int)<=f))&&(decide (f<(x0.size:Int)))) (bif (decide ((dM x0 f)<(48:Int))) then (j 0) else (bF ((decide ((0:Int)<=f))&&(decide (f<(x0.size:Int)))) (bif (decide ((dM x0 f)>(57:Int))) then (j 0) else (bif (f == 0) then (bF ((decide ((0:Int)<=f))&&(decide (f<(x0.size:Int)))) (bif ((dM x0 f) == 48) then (j 0) else (bif (decide (m>(4294967295:Int))) then (j 0) else (bF ((decide ((0:Int)<=f))&&(decide (f<(x0.size:Int)))) (z x0 (IntKind.wrap .i64 ((IntKind.wrap .i64 (m*10))+(IntKind.wrap .i64 (IntKind.wrap .u8 ((dM x0 f)-48))))) u (IntKind.wrap .i64 (f+1))))))) else (bif (decide (m>(4294967295:Int))) then (j 0) else (bF ((decide ((0:Int)<=f))&&(decide (f<(x0.size:Int)))) (z x0 (IntKind.wrap .i64 ((IntKind.wrap .i64 (m*10))+(IntKind.wrap .i64 (IntKind.wrap .u8 ((dM x0 f)-48))))) u (IntKind.wrap .i64 (f+1)))))))))) else (j m))
def e {R:Type} (a0:BA) (f:J3 R) (j:Int->Option R):Option R :=
 (f a0 0 (a0.size:Int) 0)
def L3 {R:Type} (j:Int->Option R):Nat->J3 R
 | 0=>fun _ _ _ _=>none
 | f+1=>t3 (L3 j f) j
end cb
def cb {R:Type}:cb.F R:=fun a0 f=>cb.e a0 (cb.L3 f ag) f
abbrev bI.Q0 (R:Type):Type:=BA->BA->BA->Bool->BA->Bool->BA->Bool->BA->Bool->BA->Bool->BA->Int->Int->Int->Int->Int->Bool->Option R
abbrev bI.Q1 (R:Type):Type:=BA->BA->BA->LA->Bool->BA->Bool->BA->Bool->BA->Bool->BA->LA->LA->Bool->BA->Int->Int->Int->Int->Int->LA->Bool->Option R
abbrev bI.F (R:Type):Type:=BA->BA->BA->LA->Bool->BA->Bool->BA->Bool->BA->Bool->BA->LA->LA->Bool->BA->Int->Int->Int->Int->Int->LA->Bool->Int->bI.Q0 R->bI.Q1 R->Option R
namespace bI
abbrev J3 (R:Type):Type:=Bool->Int->BA->BA->BA->LA->Bool->BA->Bool->BA->Bool->BA->Bool->BA->LA->LA->Bool->BA->Int->Int->Int->Int->Int->LA->BA->BA->BA->Bool->BA->Bool->BA->Bool->BA->Bool->BA->Bool->BA->Int->Int->Int->Int->Int->Option R
def t3 {R:Type} (ap:Q0 R) (m:Q1 R):J3 R :=
 fun x0 j x2 x3 x4 x5 x6 x7 x8 x9 u z A M N O U V W X Y ad ae f ar ax a1 a6 a7 a8 bb be bk bs bx bP bS bV b0 b1 b2 b3=>(bif (decide (x3=(⟨#[109,117,108,116,105,112,97,114,116]⟩:BA))) then (bif (decide ((f.length:Int)>(0:Int))) then (bif (decide (j<(1:Int))) then (ap (⟨#[]⟩:BA) (⟨#[]⟩:BA) (⟨#[]⟩:BA) false (⟨#[]⟩:BA) false (⟨#[]⟩:BA) false (⟨#[]⟩:BA) false (⟨#[]⟩:BA) false (⟨#[]⟩:BA) 0 0 0 0 0 false) else (bif (decide (j>(f.length:Int))) then (ap (⟨#[]⟩:BA) (⟨#[]⟩:BA) (⟨#[]⟩:BA) false (⟨#[]⟩:BA) false (⟨#[]⟩:BA) false (⟨#[]⟩:BA) false (⟨#[]⟩:BA) false (⟨#[]⟩:BA) 0 0 0 0 0 false) else (bF ((decide ((0:Int)<=(IntKind.wrap .i64 (j-1))))&&(decide ((IntKind.wrap .i64 (j-1))<(f.length:Int)))) (m ((bf f (IntKind.wrap .i64 (j-1))).fld 0).s ((bf f (IntKind.wrap .i64 (j-1))).fld 1).s ((bf f (IntKind.wrap .i64 (j-1))).fld 2).s ((bf f (IntKind.wrap .i64 (j-1))).fld 3).l ((bf f (IntKind.wrap .i64 (j-1))).fld 4).b ((bf f (IntKind.wrap .i64 (j-1))).fld 5).s ((bf f (IntKind.wrap .i64 (j-1))).fld 6).b ((bf f (IntKind.wrap .i64 (j-1))).fld 7).s ((bf f (IntKind.wrap .i64 (j-1))).fld 8).b ((bf f (IntKind.wrap .i64 (j-1))).fld 9).s ((bf f (IntKind.wrap .i64 (j-1))).fld 10).b ((bf f (IntKind.wrap .i64 (j-1))).fld 11).s ((bf f (IntKind.wrap .i64 (j-1))).fld 12).l ((bf f (IntKind.wrap .i64 (j-1))).fld 13).l ((bf f (IntKind.wrap .i64 (j-1))).fld 14).b ((bf f (IntKind.wrap .i64 (j-1))).fld 15).s ((bf f (IntKind.wrap .i64 (j-1))).fld 16).i ((bf f (IntKind.wrap .i64 (j-1))).fld 17).i ((bf f (IntKind.wrap .i64 (j-1))).fld 18).i ((bf f (IntKind.wrap .i64 (j-1))).fld 19).i ((bf f (IntKind.wrap .i64 (j-1))).fld 20).i ((bf f (IntKind.wrap .i64 (j-1))).fld 21).l true)))) else (bif x0 then (m x2 x3 x4 x5 x6 x7 x8 x9 u z A M N O U V W X Y ad ae f (j == 1)) else (m x2 x3 x4 x5 x6 x7 x8 x9 u z A M N O U V W X Y ad ae f false))) else (bif x0 then (m x2 x3 x4 x5 x6 x7 x8 x9 u z A M N O U V W X Y ad ae f (j == 1)) else (m x2 x3 x4 x5 x6 x7 x8 x9 u z A M N O U V W X Y ad ae f false)))
def e {R:Type} (c1:aA.F R) (c2:bI.F R) (a0:BA) (a1:BA) (a2:BA) (a3:LA) (a4:Bool) (a5:BA) (a6:Bool) (a7:BA) (a8:Bool) (a9:BA) (g':Bool) (ha:BA) (a12:LA) (hb:LA) (hc:Bool) (hd:BA) (hf:Int) (hg:Int) (hh:Int) (hi:Int) (a20:Int) (a21:LA) (bs:Bool) (bx:Int) (j3:J3 R) (hj:Q0 R) (hk:Q1 R):Option R :=
 (bif (!bs) then (c1 a0 a1 a2 a3 a4 a5 a6 a7 a8 a9 g' ha a12 hb hc hd hf hg hh hi a20 a21 (fun bP j m u z A M N O U V W X Y ad ae ap ar ax bb be bk f=>(bif bP then (bif (decide ((f.length:Int)>(0:Int))) then (bF (decide ((0:Int)<(f.length:Int))) (c2 ((bf f 0).fld 0).s ((bf f 0).fld 1).s ((bf f 0).fld 2).s ((bf f 0).fld 3).l ((bf f 0).fld 4).b ((bf f 0).fld 5).s ((bf f 0).fld 6).b ((bf f 0).fld 7).s ((bf f 0).fld 8).b ((bf f 0).fld 9).s ((bf f 0).fld 10).b ((bf f 0).fld 11).s ((bf f 0).fld 12).l ((bf f 0).fld 13).l ((bf f 0).fld 14).b ((bf f 0).fld 15).s ((bf f 0).fld 16).i ((bf f 0).fld 17).i ((bf f 0).fld 18).i ((bf f 0).fld 19).i ((bf f 0).fld 20).i ((bf f 0).fld 21).l true bx (fun bS bV b0 b1 b2 b3 b4 b5 b' ca cl cp ct c0 c' dg dr d' ea=>(hj bS bV b0 b1 b2 b3 b4 b5 b' ca cl cp ct c0 c' dg dr d' ea)) (fun eb ed ei ek en ep et ey e0 e1 e2 e3 e4 e5 e' fl fo fr fs fu fz gb gr=>(hk eb ed ei ek en ep et ey e0 e1 e2 e3 e4 e5 e' fl fo fr fs fu fz gb gr)))) else (j3 bs bx j m u z A M N O U V W X Y ad ae ap ar ax bb be bk f (⟨#[]⟩:BA) (⟨#[]⟩:BA) (⟨#[]⟩:BA) false (⟨#[]⟩:BA) false (⟨#[]⟩:BA) false (⟨#[]⟩:BA) false (⟨#[]⟩:BA) false (⟨#[]⟩:BA) 0 0 0 0 0)) else (j3 bs bx j m u z A M N O U V W X Y ad ae ap ar ax bb be bk f (⟨#[]⟩:BA) (⟨#[]⟩:BA) (⟨#[]⟩:BA) false (⟨#[]⟩:BA) false (⟨#[]⟩:BA) false (⟨#[]⟩:BA) false (⟨#[]⟩:BA) false (⟨#[]⟩:BA) 0 0 0 0 0)))) else (j3 bs bx a0 a1 a2 a3 a4 a5 a6 a7 a8 a9 g' ha a12 hb hc hd hf hg hh hi a20 a21 (⟨#[]⟩:BA) (⟨#[]⟩:BA) (⟨#[]⟩:BA) false (⟨#[]⟩:BA) false (⟨#[]⟩:BA) false (⟨#[]⟩:BA) false (⟨#[]⟩:BA) false (⟨#[]⟩:BA) 0 0 0 0 0))
def L3 {R:Type} (c1:aA.F R) (c2:bI.F R) (j:Q0 R) (m:Q1 R):Nat->J3 R
 | 0=>fun _ _ _ _ _ _ _ _ _ _ _ _ _ _ _ _ _ _ _ _ _ _ _ _ _ _ _ _ _ _ _ _ _ _ _ _ _ _ _ _ _ _=>none
 | f+1=>t3 j m
def B {R:Type} (c1:aA.F R) (c2:bI.F R):F R:=fun a0 a1 a2 a3 a4 a5 Y a7 a8 a9 m u a12 z A M N O U V a20 a21 W X f j=>e c1 c2 a0 a1 a2 a3 a4 a5 Y a7 a8 a9 m u a12 z A M N O U V a20 a21 W X (L3 c1 c2 f j ag) f j
def R {R:Type}:Nat->F R
 | 0=>fun _ _ _ _ _ _ _ _ _ _ _ _ _ _ _ _ _ _ _ _ _ _ _ _ _ _=>none
 | n+1=>B aA (bI.R n)
end bI
def bI {R:Type}:bI.F R:=bI.R ag
abbrev dt.F (R:Type):Type:=BA->BA->BA->LA->Bool->BA->Bool->BA->Bool->BA->Bool->BA->LA->LA->Bool->BA->Int->Int->Int->Int->Int->LA->BA->(BA->BA->BA->Bool->BA->Bool->BA->Bool->BA->Bool->BA->Bool->BA->Int->Int->Int->Int->Int->Bool->Option R)->(BA->BA->BA->LA->Bool->BA->Bool->BA->Bool->BA->Bool->BA->LA->LA->Bool->BA->Int->Int->Int->Int->Int->LA->Bool->Option R)->Option R
namespace dt
abbrev J (R:Type):Type:=BA->BA->BA->BA->LA->Bool->BA->Bool->BA->Bool->BA->Bool->BA->LA->LA->Bool->BA->Int->Int->Int->Int->Int->LA->Option R
def b {R:Type} (c1:cb.F R) (c2:bI.F R) (f:BA->BA->BA->Bool->BA->Bool->BA->Bool->BA->Bool->BA->Bool->BA->Int->Int->Int->Int->Int->Bool->Option R) (k:BA->BA->BA->LA->Bool->BA->Bool->BA->Bool->BA->Bool->BA->LA->LA->Bool->BA->Int->Int->Int->Int->Int->LA->Option R) (p:BA) (x0:BA) (x1:BA) (x2:BA) (x3:LA) (x4:Bool) (x5:BA) (x6:Bool) (x7:BA) (x8:Bool) (x9:BA) (V:Bool) (W:BA) (X:LA) (Y:LA) (ad:Bool) (ae:BA) (ap:Int) (ar:Int) (ax:Int) (a1:Int) (a6:Int) (a7:LA) (i:Bool):Option R :=
 c1 p (fun n=>(bif (n == 0) then (f (⟨#[]⟩:BA) (⟨#[]⟩:BA) (⟨#[]⟩:BA) false (⟨#[]⟩:BA) false (⟨#[]⟩:BA) false (⟨#[]⟩:BA) false (⟨#[]⟩:BA) false (⟨#[]⟩:BA) 0 0 0 0 0 false) else (c2 x0 x1 x2 x3 x4 x5 x6 x7 x8 x9 V W X Y ad ae ap ar ax a1 a6 a7 i n (fun y0 y1 y2 y3 y4 y5 y6 y7 y8 y9 m u z A M N O U j=>(bif (!j) then (f (⟨#[]⟩:BA) (⟨#[]⟩:BA) (⟨#[]⟩:BA) false (⟨#[]⟩:BA) false (⟨#[]⟩:BA) false (⟨#[]⟩:BA) false (⟨#[]⟩:BA) false (⟨#[]⟩:BA) 0 0 0 0 0 false) else none)) (fun y0 y1 y2 y3 y4 y5 y6 y7 y8 y9 m u z A M N O U j a8 bb be bk=>(bif (!bk) then (f (⟨#[]⟩:BA) (⟨#[]⟩:BA) (⟨#[]⟩:BA) false (⟨#[]⟩:BA) false (⟨#[]⟩:BA) false (⟨#[]⟩:BA) false (⟨#[]⟩:BA) false (⟨#[]⟩:BA) 0 0 0 0 0 false) else (k y0 y1 y2 y3 y4 y5 y6 y7 y8 y9 m u z A M N O U j a8 bb be))))))
def t {R:Type} (c1:cb.F R) (c2:bI.F R) (c3:aL.F R) (f:BA->BA->BA->Bool->BA->Bool->BA->Bool->BA->Bool->BA->Bool->BA->Int->Int->Int->Int->Int->Bool->Option R) (ad:BA->BA->BA->LA->Bool->BA->Bool->BA->Bool->BA->Bool->BA->LA->LA->Bool->BA->Int->Int->Int->Int->Int->LA->Bool->Option R) (q:BA) (j:J R) (p:BA) (x0:BA) (x1:BA) (x2:BA) (x3:LA) (x4:Bool) (x5:BA) (x6:Bool) (x7:BA) (x8:Bool) (x9:BA) (m:Bool) (u:BA) (z:LA) (A:LA) (M:Bool) (N:BA) (O:Int) (U:Int) (V:Int) (W:Int) (X:Int) (Y:LA) (i:Bool):Option R :=
 c3 p (⟨#[46]⟩:BA) (fun n=>(bif (decide (n<0)) then (b c1 c2 f (fun y0 y1 y2 y3 y4 y5 y6 y7 y8 y9 ae ap ar ax a1 a6 a7 a8 bb be bk bs=>ad q y1 y2 y3 y4 y5 y6 y7 y8 y9 ae ap ar ax a1 a6 a7 a8 bb be bk bs true) p x0 x1 x2 x3 x4 x5 x6 x7 x8 x9 m u z A M N O U V W X Y i) else (bF (decide (n+1<=(p.size:Int))) (b c1 c2 f (j (p.extract (n.toNat+1) p.size)) (p.extract 0 n.toNat) x0 x1 x2 x3 x4 x5 x6 x7 x8 x9 m u z A M N O U V W X Y i))))
def L {R:Type} (c1:cb.F R) (c2:bI.F R) (c3:aL.F R) (j:BA->BA->BA->Bool->BA->Bool->BA->Bool->BA->Bool->BA->Bool->BA->Int->Int->Int->Int->Int->Bool->Option R) (m:BA->BA->BA->LA->Bool->BA->Bool->BA->Bool->BA->Bool->BA->LA->LA->Bool->BA->Int->Int->Int->Int->Int->LA->Bool->Option R) (q:BA):Nat->Bool->J R
 | 0=>fun _ _ _ _ _ _ _ _ _ _ _ _ _ _ _ _ _ _ _ _ _ _ _ _=>none
 | f+1=>fun i p x0 x1 x2 x3 x4 x5 x6 x7 x8 x9 u z A M N O U V W X Y ad=>t c1 c2 c3 j m q (L c1 c2 c3 j m q f false) p x0 x1 x2 x3 x4 x5 x6 x7 x8 x9 u z A M N O U V W X Y ad i
end dt
def dt {R:Type}:dt.F R:=fun a0 a1 a2 a3 a4 a5 X Y a8 a9 j m a12 u z A M N O U a20 a21 f W V =>
 (bif (decide (f=(⟨#[]⟩:BA))) then (V a0 a1 a2 a3 a4 a5 X Y a8 a9 j m a12 u z A M N O U a20 a21 true) else (bF (decide (f.size<281474976710656)) (dt.L cb bI aL W V f ag true f a0 a1 a2 a3 a4 a5 X Y a8 a9 j m a12 u z A M N O U a20 a21)))
abbrev dx.F (R:Type):Type:=Option R->Option R
namespace dx
def e {R:Type} (f:Option R):Option R :=
 f
end dx
def dx {R:Type}:dx.F R:=fun f=>dx.e f
abbrev aT.F (R:Type):Type:=Option R->Option R
namespace aT
def e {R:Type} (f:Option R):Option R :=
 f
end aT
def aT {R:Type}:aT.F R:=fun f=>aT.e f
abbrev dQ.Q0 (R:Type):Type:=BA->BA->BA->Bool->BA->Bool->BA->Bool->BA->Bool->BA->Bool->BA->Int->Int->Int->Int->Int->Option R
abbrev dQ.F (R:Type):Type:=BA->BA->BA->Bool->BA->Bool->BA->Bool->BA->Bool->BA->Bool->BA->Int->Int->Int->Int->Int->dQ.Q0 R->Option R
namespace dQ
abbrev J6 (R:Type):Type:=Int->Int->BA->BA->BA->Bool->BA->Bool->BA->Bool->BA->Bool->BA->Bool->BA->Int->Int->Int->Int->Int->BA->BA->BA->Bool->BA->Bool->BA->Bool->BA->Bool->BA->Bool->BA->Int->Int->Int->Int->Int->Option R
def t6 {R:Type} (f:Q0 R):J6 R :=
 fun x0 W X Y x4 x5 x6 x7 x8 x9 j m u z A M N O U V ad ae ap ar ax a1 a6 a7 a8 bb be bk bs bx bP bS bV b0=>(bif (decide (W<x0)) then none else (f X Y x4 x5 x6 x7 x8 x9 j m u z A M N O U V))
def e {R:Type} (c1:dx.F R) (c2:aT.F R) (a0:BA) (a1:BA) (a2:BA) (a3:Bool) (a4:BA) (a5:Bool) (N:BA) (O:Bool) (U:BA) (a9:Bool) (f:BA) (j:Bool) (a12:BA) (m:Int) (u:Int) (z:Int) (A:Int) (M:Int) (V:J6 R) (W:Q0 R):Option R :=
 (c1 (c1 (c2 (V 0 0 a0 a1 a2 a3 a4 a5 N O U a9 f j a12 m u z A M (⟨#[]⟩:BA) (⟨#[]⟩:BA) (⟨#[]⟩:BA) false (⟨#[]⟩:BA) false (⟨#[]⟩:BA) false (⟨#[]⟩:BA) false (⟨#[]⟩:BA) false (⟨#[]⟩:BA) 0 0 0 0 0))))
def L6 {R:Type} (c1:dx.F R) (c2:aT.F R) (j:Q0 R):Nat->J6 R
 | 0=>fun _ _ _ _ _ _ _ _ _ _ _ _ _ _ _ _ _ _ _ _ _ _ _ _ _ _ _ _ _ _ _ _ _ _ _ _ _ _=>none
 | f+1=>t6 j
end dQ
def dQ {R:Type}:dQ.F R:=fun a0 a1 a2 a3 a4 a5 O U V a9 j m a12 u z A M N f=>dQ.e dx aT a0 a1 a2 a3 a4 a5 O U V a9 j m a12 u z A M N (dQ.L6 dx aT f ag) f
abbrev cu.F (R:Type):Type:=LA->(LA->Option R)->Option R->Option R
namespace cu
def e {R:Type} (a0:LA) (f:LA->Option R) (j:Option R):Option R :=
 (bif (decide ((0:Int)<(a0.length:Int))) then (bF (decide ((0+a0.length)*32<=140737488355328)) (f (([]:LA)++a0))) else (oK j (bF (decide ((0+a0.length)*32<=140737488355328)) (f (([]:LA)++a0)))))
end cu
def cu {R:Type}:cu.F R:=fun a0 f j=>cu.e a0 f j
abbrev ay.F (R:Type):Type:=LA->(LA->Option R)->Option R->Option R
namespace ay
def e {R:Type} (a0:LA) (f:LA->Option R) (j:Option R):Option R :=
 (bif (decide ((0:Int)<(a0.length:Int))) then (bF (decide ((0+a0.length)*16<=140737488355328)) (f (([]:LA)++a0))) else (oK j (bF (decide ((0+a0.length)*16<=140737488355328)) (f (([]:LA)++a0)))))
end ay
def ay {R:Type}:ay.F R:=fun a0 f j=>ay.e a0 f j
abbrev bi.Q0 (R:Type):Type:=BA->BA->BA->LA->Bool->BA->Bool->BA->Bool->BA->Bool->BA->LA->LA->Bool->BA->Int->Int->Int->Int->Int->Option R
abbrev bi.Q1 (R:Type):Type:=BA->BA->BA->LA->Bool->BA->Bool->BA->Bool->BA->Bool->BA->LA->LA->Bool->BA->Int->Int->Int->Int->Int->LA->Option R
abbrev bi.F (R:Type):Type:=BA->BA->BA->LA->Bool->BA->Bool->BA->Bool->BA->Bool->BA->LA->LA->Bool->BA->Int->Int->Int->Int->Int->LA->bi.Q0 R->bi.Q1 R->Option R
namespace bi
abbrev J3 (R:Type):Type:=BA->BA->BA->Bool->BA->Bool->BA->Bool->BA->Bool->BA->LA->Bool->BA->Int->Int->Int->Int->Int->LA->LA->LA->BA->BA->BA->Bool->BA->Bool->BA->Bool->BA->Bool->BA->Bool->BA->Int->Int->Int->Int->Int->Option R
abbrev J6 (R:Type):Type:=LA->Int->Int->BA->BA->BA->Bool->BA->Bool->BA->Bool->BA->Bool->BA->Bool->BA->Int->Int->Int->Int->Int->LA->LA->LA->LA->BA->BA->BA->Bool->BA->Bool->BA->Bool->BA->Bool->BA->Bool->BA->Int->Int->Int->Int->Int->LA->Option R
def t3 {R:Type} (c2:ay.F R) (j6:J6 R):J3 R :=
 fun x0 x1 x2 x3 x4 x5 x6 x7 x8 x9 m bV u z A M N O U f V W X Y ad ae ap ar ax a1 a6 a7 a8 bb be bk bs bx bP bS=>(c2 bV (fun j=>(j6 f (f.length:Int) 0 x0 x1 x2 x3 x4 x5 x6 x7 x8 x9 m u z A M N O U f V W j X Y ad ae ap ar ax a1 a6 a7 a8 bb be bk bs bx bP bS ([]:LA))) (j6 f (f.length:Int) 0 x0 x1 x2 x3 x4 x5 x6 x7 x8 x9 m u z A M N O U f V W ([]:LA) X Y ad ae ap ar ax a1 a6 a7 a8 bb be bk bs bx bP bS ([]:LA)))
def t6 {R:Type} (c3:bi.F R) (j6:J6 R) (hh:Q1 R):J6 R :=
 fun x0 x1 f x3 x4 x5 x6 x7 x8 x9 m u z A M N O U V W X e3 Y ad ae e4 e5 e' fl fo fr fs fu fz gb gr g' ha hb hc hd hf hg j=>(bif (decide (f<x1)) then (bF ((decide ((0:Int)<=f))&&(decide (f<(x0.length:Int)))) (c3 ((bf x0 f).fld 0).s ((bf x0 f).fld 1).s ((bf x0 f).fld 2).s ((bf x0 f).fld 3).l ((bf x0 f).fld 4).b ((bf x0 f).fld 5).s ((bf x0 f).fld 6).b ((bf x0 f).fld 7).s ((bf x0 f).fld 8).b ((bf x0 f).fld 9).s ((bf x0 f).fld 10).b ((bf x0 f).fld 11).s ((bf x0 f).fld 12).l ((bf x0 f).fld 13).l ((bf x0 f).fld 14).b ((bf x0 f).fld 15).s ((bf x0 f).fld 16).i ((bf x0 f).fld 17).i ((bf x0 f).fld 18).i ((bf x0 f).fld 19).i ((bf x0 f).fld 20).i ((bf x0 f).fld 21).l (fun ap ar ax a1 a6 a7 a8 bb be bk bs bx bP bS bV b0 b1 b2 b3 b4 b5=>(bF (decide ((j.length+1)*304<=140737488355328)) (j6 x0 x1 (IntKind.wrap .i64 (f+1)) x3 x4 x5 x6 x7 x8 x9 m u z A M N O U V W X e3 Y ad ae e4 e5 e' fl fo fr fs fu fz gb gr g' ha hb hc hd hf hg (j++[AV.agg [AV.str ap,AV.str ar,AV.str ax,AV.sl a1,AV.bool a6,AV.str a7,AV.bool a8,AV.str bb,AV.bool be,AV.str bk,AV.bool bs,AV.str bx,AV.sl bP,AV.sl bS,AV.bool bV,AV.str b0,AV.int b1,AV.int b2,AV.int b3,AV.int b4,AV.int b5,AV.sl []]])))) (fun b' ca cl cp ct c0 c' dg dr d' ea eb ed ei ek en ep et ey e0 e1 e2=>(bF (decide ((j.length+1)*304<=140737488355328)) (j6 x0 x1 (IntKind.wrap .i64 (f+1)) x3 x4 x5 x6 x7 x8 x9 m u z A M N O U V W X e3 Y ad ae e4 e5 e' fl fo fr fs fu fz gb gr g' ha hb hc hd hf hg (j++[AV.agg [AV.str b',AV.str ca,AV.str cl,AV.sl cp,AV.bool ct,AV.str c0,AV.bool c',AV.str dg,AV.bool dr,AV.str d',AV.bool ea,AV.str eb,AV.sl ed,AV.sl ei,AV.bool ek,AV.str en,AV.int ep,AV.int et,AV.int ey,AV.int e0,AV.int e1,AV.sl e2]])))))) else (hh x3 x4 x5 Y x6 x7 x8 x9 m u z A ad ae M N O U V W X j))
def e {R:Type} (c1:cu.F R) (c2:ay.F R) (c3:bi.F R) (a0:BA) (a1:BA) (a2:BA) (a3:LA) (a4:Bool) (a5:BA) (X:Bool) (Y:BA) (a8:Bool) (a9:BA) (j:Bool) (m:BA) (a12:LA) (u:LA) (z:Bool) (A:BA) (M:Int) (N:Int) (O:Int) (U:Int) (a20:Int) (a21:LA) (j3:J3 R) (j6:J6 R) (ad:Q0 R) (ae:Q1 R):Option R :=
 (c1 a3 (fun f=>(c1 a12 (fun V=>(j3 a0 a1 a2 a4 a5 X Y a8 a9 j m u z A M N O U a20 a21 f V (⟨#[]⟩:BA) (⟨#[]⟩:BA) (⟨#[]⟩:BA) false (⟨#[]⟩:BA) false (⟨#[]⟩:BA) false (⟨#[]⟩:BA) false (⟨#[]⟩:BA) false (⟨#[]⟩:BA) 0 0 0 0 0)) (j3 a0 a1 a2 a4 a5 X Y a8 a9 j m u z A M N O U a20 a21 f ([]:LA) (⟨#[]⟩:BA) (⟨#[]⟩:BA) (⟨#[]⟩:BA) false (⟨#[]⟩:BA) false (⟨#[]⟩:BA) false (⟨#[]⟩:BA) false (⟨#[]⟩:BA) false (⟨#[]⟩:BA) 0 0 0 0 0))) (c1 a12 (fun W=>(j3 a0 a1 a2 a4 a5 X Y a8 a9 j m u z A M N O U a20 a21 ([]:LA) W (⟨#[]⟩:BA) (⟨#[]⟩:BA) (⟨#[]⟩:BA) false (⟨#[]⟩:BA) false (⟨#[]⟩:BA) false (⟨#[]⟩:BA) false (⟨#[]⟩:BA) false (⟨#[]⟩:BA) 0 0 0 0 0)) (j3 a0 a1 a2 a4 a5 X Y a8 a9 j m u z A M N O U a20 a21 ([]:LA) ([]:LA) (⟨#[]⟩:BA) (⟨#[]⟩:BA) (⟨#[]⟩:BA) false (⟨#[]⟩:BA) false (⟨#[]⟩:BA) false (⟨#[]⟩:BA) false (⟨#[]⟩:BA) false (⟨#[]⟩:BA) 0 0 0 0 0)))
def L6 {R:Type} (c1:cu.F R) (c2:ay.F R) (c3:bi.F R) (m:Q0 R) (j:Q1 R):Nat->J6 R
 | 0=>fun _ _ _ _ _ _ _ _ _ _ _ _ _ _ _ _ _ _ _ _ _ _ _ _ _ _ _ _ _ _ _ _ _ _ _ _ _ _ _ _ _ _ _ _=>none
 | f+1=>t6 c3 (L6 c1 c2 c3 m j f) j
def L3 {R:Type} (c1:cu.F R) (c2:ay.F R) (c3:bi.F R) (j:Q0 R) (m:Q1 R):Nat->J3 R
 | 0=>fun _ _ _ _ _ _ _ _ _ _ _ _ _ _ _ _ _ _ _ _ _ _ _ _ _ _ _ _ _ _ _ _ _ _ _ _ _ _ _ _=>none
 | f+1=>t3 c2 (L6 c1 c2 c3 j m f)
def B {R:Type} (c1:cu.F R) (c2:ay.F R) (c3:bi.F R):F R:=fun a0 a1 a2 a3 a4 a5 W X Y a9 m u a12 z A M N O U V a20 a21 f j=>e c1 c2 c3 a0 a1 a2 a3 a4 a5 W X Y a9 m u a12 z A M N O U V a20 a21 (L3 c1 c2 c3 f j ag) (L6 c1 c2 c3 f j ag) f j
def R {R:Type}:Nat->F R
 | 0=>fun _ _ _ _ _ _ _ _ _ _ _ _ _ _ _ _ _ _ _ _ _ _ _ _=>none
 | n+1=>B cu ay (bi.R n)
end bi
def bi {R:Type}:bi.F R:=bi.R ag
abbrev dh.Q0 (R:Type):Type:=BA->BA->BA->Bool->BA->Bool->BA->Bool->BA->Bool->BA->Bool->BA->Int->Int->Int->Int->Int->Bool->Option R
abbrev dh.Q1 (R:Type):Type:=BA->BA->BA->LA->Bool->BA->Bool->BA->Bool->BA->Bool->BA->LA->LA->Bool->BA->Int->Int->Int->Int->Int->Bool->Option R
abbrev dh.Q2 (R:Type):Type:=BA->BA->BA->LA->Bool->BA->Bool->BA->Bool->BA->Bool->BA->LA->LA->Bool->BA->Int->Int->Int->Int->Int->LA->Bool->Option R
abbrev dh.F (R:Type):Type:=BA->BA->BA->LA->Bool->BA->Bool->BA->Bool->BA->Bool->BA->LA->LA->Bool->BA->Int->Int->Int->Int->Int->LA->BA->dh.Q0 R->dh.Q1 R->dh.Q2 R->Option R
namespace dh
def e {R:Type} (c1:dt.F R) (c2:dQ.F R) (c3:bi.F R) (a0:BA) (a1:BA) (a2:BA) (a3:LA) (a4:Bool) (a5:BA) (a6:Bool) (a7:BA) (a8:Bool) (a9:BA) (hS:Bool) (hT:BA) (a12:LA) (hU:LA) (hV:Bool) (hW:BA) (hX:Int) (h0:Int) (h1:Int) (h2:Int) (a20:Int) (a21:LA) (h3:BA) (f:Q0 R) (h4:Q1 R) (h5:Q2 R):Option R :=
 (c1 a0 a1 a2 a3 a4 a5 a6 a7 a8 a9 hS hT a12 hU hV hW hX h0 h1 h2 a20 a21 h3 (fun j m u z A M N O U V W X Y ad ae ap ar ax bb=>(bif (!bb) then (f (⟨#[]⟩:BA) (⟨#[]⟩:BA) (⟨#[]⟩:BA) false (⟨#[]⟩:BA) false (⟨#[]⟩:BA) false (⟨#[]⟩:BA) false (⟨#[]⟩:BA) false (⟨#[]⟩:BA) 0 0 0 0 0 false) else (c2 j m u z A M N O U V W X Y ad ae ap ar ax (fun be bk bs bx bP bS bV b0 b1 b2 b3 b4 b5 b' ca cl cp ct=>(f be bk bs bx bP bS bV b0 b1 b2 b3 b4 b5 b' ca cl cp ct true))))) (fun c0 c' dg dr d' ea eb ed ei ek en ep et ey e0 e1 e2 e3 e4 e5 e' fl fo=>(bif (!fo) then (f (⟨#[]⟩:BA) (⟨#[]⟩:BA) (⟨#[]⟩:BA) false (⟨#[]⟩:BA) false (⟨#[]⟩:BA) false (⟨#[]⟩:BA) false (⟨#[]⟩:BA) false (⟨#[]⟩:BA) 0 0 0 0 0 false) else (c3 c0 c' dg dr d' ea eb ed ei ek en ep et ey e0 e1 e2 e3 e4 e5 e' fl (fun fr fs fu fz gb gr g' ha hb hc hd hf hg hh hi hj hk hl hn ho hp=>(h4 fr fs fu fz gb gr g' ha hb hc hd hf hg hh hi hj hk hl hn ho hp true)) (fun hq hr hs ht hv hx hz hA hB hC hD hE hF hJ hK hL hM hN hO hP hQ hR=>(h5 hq hr hs ht hv hx hz hA hB hC hD hE hF hJ hK hL hM hN hO hP hQ hR true))))))
end dh
def dh {R:Type}:dh.F R:=fun a0 a1 a2 a3 a4 a5 Y a7 a8 a9 f j a12 m u z A M N O a20 a21 U V W X=>dh.e dt dQ bi a0 a1 a2 a3 a4 a5 Y a7 a8 a9 f j a12 m u z A M N O a20 a21 U V W X
abbrev aI.F (R:Type):Type:=BA->(Bool->Option R)->(LA->Bool->Option R)->Option R
namespace aI
abbrev J5 (R:Type):Type:=BA->Int->Int->Int->LA->Option R
def t5 {R:Type} (z:J5 R) (j:Bool->Option R) (M:LA->Bool->Option R):J5 R :=
 fun x0 A u f m=>(bif (decide (f<=(x0.size:Int))) then (bif (decide (f<(x0.size:Int))) then (bF ((decide ((0:Int)<=f))&&(decide (f<(x0.size:Int)))) (bif ((dM x0 f) != 46) then (bF ((decide ((0:Int)<=f))&&(decide (f<(x0.size:Int)))) (bif (decide ((dM x0 f)<(48:Int))) then (j false) else (bif (decide ((dM x0 f)>(57:Int))) then (j false) else (bif ((dM x0 f) == 48) then (bif (f == u) then (j false) else (z x0 (min2 (IntKind.wrap .i64 ((IntKind.wrap .i64 (A*10))+(IntKind.wrap .i64 (IntKind.wrap .u8 ((dM x0 f)-48))))) 1000000) u (IntKind.wrap .i64 (f+1)) m)) else (z x0 (min2 (IntKind.wrap .i64 ((IntKind.wrap .i64 (A*10))+(IntKind.wrap .i64 (IntKind.wrap .u8 ((dM x0 f)-48))))) 1000000) u (IntKind.wrap .i64 (f+1)) m))))) else (bif (f == u) then (j false) else (bF (decide ((m.length+1)*8<=140737488355328)) (z x0 0 (IntKind.wrap .i64 (f+1)) (IntKind.wrap .i64 (f+1)) (m++[AV.int A])))))) else (bif (f == u) then (j false) else (bF (decide ((m.length+1)*8<=140737488355328)) (z x0 0 (IntKind.wrap .i64 (f+1)) (IntKind.wrap .i64 (f+1)) (m++[AV.int A]))))) else (M m true))
def e {R:Type} (a0:BA) (f:J5 R) (j:Bool->Option R) (m:LA->Bool->Option R):Option R :=
 (f a0 0 0 0 ([]:LA))
def L5 {R:Type} (j:Bool->Option R) (m:LA->Bool->Option R):Nat->J5 R
 | 0=>fun _ _ _ _ _=>none
 | f+1=>t5 (L5 j m f) j m
end aI
def aI {R:Type}:aI.F R:=fun a0 f j=>aI.e a0 (aI.L5 f j ag) f j
abbrev bR.Q0 (R:Type):Type:=BA->BA->BA->LA->Bool->BA->Bool->BA->Bool->BA->Bool->BA->LA->LA->Bool->BA->Int->Int->Int->Int->Int->LA->Bool->Option R
abbrev bR.Q1 (R:Type):Type:=BA->BA->BA->Bool->BA->Bool->BA->Bool->BA->Bool->BA->Bool->BA->Int->Int->Int->Int->Int->Bool->Option R
abbrev bR.F (R:Type):Type:=BA->BA->BA->LA->Bool->BA->Bool->BA->Bool->BA->Bool->BA->LA->LA->Bool->BA->Int->Int->Int->Int->Int->LA->BA->bR.Q0 R->bR.Q1 R->Option R
namespace bR
abbrev J4 (R:Type):Type:=BA->Bool->BA->BA->BA->LA->Bool->BA->Bool->BA->Bool->BA->Bool->BA->LA->LA->Bool->BA->Int->Int->Int->Int->Int->LA->BA->BA->BA->Bool->BA->Bool->BA->Bool->BA->Bool->BA->Bool->BA->Int->Int->Int->Int->Int->LA->Option R
abbrev J8 (R:Type):Type:=BA->Bool->Int->BA->BA->BA->LA->Bool->BA->Bool->BA->Bool->BA->Bool->BA->LA->LA->Bool->BA->Int->Int->Int->Int->Int->LA->BA->BA->BA->Bool->BA->Bool->BA->Bool->BA->Bool->BA->Bool->BA->Int->Int->Int->Int->Int->LA->Option R
abbrev J9 (R:Type):Type:=BA->Bool->Int->BA->BA->BA->LA->Bool->BA->Bool->BA->Bool->BA->Bool->BA->LA->LA->Bool->BA->Int->Int->Int->Int->Int->LA->BA->BA->BA->Bool->BA->Bool->BA->Bool->BA->Bool->BA->Bool->BA->Int->Int->Int->Int->Int->LA->Option R
abbrev qL (R:Type):Type:=BA->Bool->Int->Int->BA->BA->BA->LA->Bool->BA->Bool->BA->Bool->BA->Bool->BA->LA->LA->Bool->BA->Int->Int->Int->Int->Int->LA->BA->BA->BA->Bool->BA->Bool->BA->Bool->BA->Bool->BA->Bool->BA->Int->Int->Int->Int->Int->LA->Option R
abbrev AK (R:Type):Type:=BA->Bool->Int->Int->BA->BA->BA->LA->Bool->BA->Bool->BA->Bool->BA->Bool->BA->LA->LA->Bool->BA->Int->Int->Int->Int->Int->LA->BA->BA->BA->Bool->BA->Bool->BA->Bool->BA->Bool->BA->Bool->BA->Int->Int->Int->Int->Int->LA->Option R
abbrev zi (R:Type):Type:=BA->Int->BA->BA->BA->LA->Bool->BA->Bool->BA->Bool->BA->Bool->BA->LA->LA->Bool->BA->Int->Int->Int->Int->Int->LA->BA->BA->BA->Bool->BA->Bool->BA->Bool->BA->Bool->BA->Bool->BA->Int->Int->Int->Int->Int->LA->Option R
def t4 {R:Type} (j8:J8 R) (f:Q1 R):J4 R :=
 fun x0 x1 x2 x3 x4 x5 x6 x7 x8 x9 j m u z A M N O U V W X Y ad ae ap ar ax a1 a6 a7 a8 bb be bk bs bx bP bS bV b0 b1 b2=>(bif (!x1) then (f (⟨#[]⟩:BA) (⟨#[]⟩:BA) (⟨#[]⟩:BA) false (⟨#[]⟩:BA) false (⟨#[]⟩:BA) false (⟨#[]⟩:BA) false (⟨#[]⟩:BA) false (⟨#[]⟩:BA) 0 0 0 0 0 false) else (j8 x0 true 0 x2 x3 x4 x5 x6 x7 x8 x9 j m u z A M N O U V W X Y ad ae ap ar ax a1 a6 a7 a8 bb be bk bs bx bP bS bV b0 b1 b2))
def t8 {R:Type} (u:qL R) (b5:Q0 R):J8 R :=
 fun x0 x1 m x3 x4 x5 x6 x7 x8 x9 z A M N O U V W X Y ad ae ap ar f ax a1 a6 a7 a8 bb be bk bs bx bP bS bV b0 b1 b2 b3 b4 j=>(bif (decide (m<(j.length:Int))) then (bF ((decide ((0:Int)<=m))&&(decide (m<(j.length:Int)))) (bif (decide (x4=(⟨#[109,101,115,115,97,103,101]⟩:BA))) then (bif (decide ((f.length:Int)>(0:Int))) then (bif (!x1) then (bF (decide ((0:Int)<(f.length:Int))) (u x0 true m (bf j m).i ((bf f 0).fld 0).s ((bf f 0).fld 1).s ((bf f 0).fld 2).s ((bf f 0).fld 3).l ((bf f 0).fld 4).b ((bf f 0).fld 5).s ((bf f 0).fld 6).b ((bf f 0).fld 7).s ((bf f 0).fld 8).b ((bf f 0).fld 9).s ((bf f 0).fld 10).b ((bf f 0).fld 11).s ((bf f 0).fld 12).l ((bf f 0).fld 13).l ((bf f 0).fld 14).b ((bf f 0).fld 15).s ((bf f 0).fld 16).i ((bf f 0).fld 17).i ((bf f 0).fld 18).i ((bf f 0).fld 19).i ((bf f 0).fld 20).i ((bf f 0).fld 21).l ax a1 a6 a7 a8 bb be bk bs bx bP bS bV b0 b1 b2 b3 b4 j)) else (u x0 x1 m (bf j m).i x3 x4 x5 x6 x7 x8 x9 z A M N O U V W X Y ad ae ap ar f ax a1 a6 a7 a8 bb be bk bs bx bP bS bV b0 b1 b2 b3 b4 j)) else (u x0 x1 m (bf j m).i x3 x4 x5 x6 x7 x8 x9 z A M N O U V W X Y ad ae ap ar f ax a1 a6 a7 a8 bb be bk bs bx bP bS bV b0 b1 b2 b3 b4 j)) else (u x0 x1 m (bf j m).i x3 x4 x5 x6 x7 x8 x9 z A M N O U V W X Y ad ae ap ar f ax a1 a6 a7 a8 bb be bk bs bx bP bS bV b0 b1 b2 b3 b4 j))) else (b5 x0 x4 x5 x6 x7 x8 x9 z A M N O U V W X Y ad ae ap ar f true))
def t9 {R:Type} (j8:J8 R):J9 R :=
 fun x0 x1 x2 x3 x4 x5 x6 x7 x8 x9 f j m u z A M N O U V W X Y ad ae ap ar ax a1 a6 a7 a8 bb be bk bs bx bP bS bV b0 b1 b2=>(j8 x0 x1 (IntKind.wrap .i64 (x2+1)) x3 x4 x5 x6 x7 x8 x9 f j m u z A M N O U V W X Y ad ae ap ar ax a1 a6 a7 a8 bb be bk bs bx bP bS bV b0 b1 b2)
def t14 {R:Type} (a7:AK R) (b':zi R) (ca:Q1 R):qL R :=
 fun x0 x1 x2 j x4 x5 x6 x7 x8 x9 a8 bb be bk bs bx bP bS bV b0 b1 b2 b3 b4 b5 f m u z A M N O U V W X Y ad ae ap ar ax a1 a6=>(bif (decide (x5=(⟨#[109,117,108,116,105,112,97,114,116]⟩:BA))) then (bif (decide ((f.length:Int)>(0:Int))) then (bif (decide (j>(f.length:Int))) then (ca (⟨#[]⟩:BA) (⟨#[]⟩:BA) (⟨#[]⟩:BA) false (⟨#[]⟩:BA) false (⟨#[]⟩:BA) false (⟨#[]⟩:BA) false (⟨#[]⟩:BA) false (⟨#[]⟩:BA) 0 0 0 0 0 false) else (bF ((decide ((0:Int)<=(IntKind.wrap .i64 (j-1))))&&(decide ((IntKind.wrap .i64 (j-1))<(f.length:Int)))) (b' x0 x2 ((bf f (IntKind.wrap .i64 (j-1))).fld 0).s ((bf f (IntKind.wrap .i64 (j-1))).fld 1).s ((bf f (IntKind.wrap .i64 (j-1))).fld 2).s ((bf f (IntKind.wrap .i64 (j-1))).fld 3).l ((bf f (IntKind.wrap .i64 (j-1))).fld 4).b ((bf f (IntKind.wrap .i64 (j-1))).fld 5).s ((bf f (IntKind.wrap .i64 (j-1))).fld 6).b ((bf f (IntKind.wrap .i64 (j-1))).fld 7).s ((bf f (IntKind.wrap .i64 (j-1))).fld 8).b ((bf f (IntKind.wrap .i64 (j-1))).fld 9).s ((bf f (IntKind.wrap .i64 (j-1))).fld 10).b ((bf f (IntKind.wrap .i64 (j-1))).fld 11).s ((bf f (IntKind.wrap .i64 (j-1))).fld 12).l ((bf f (IntKind.wrap .i64 (j-1))).fld 13).l ((bf f (IntKind.wrap .i64 (j-1))).fld 14).b ((bf f (IntKind.wrap .i64 (j-1))).fld 15).s ((bf f (IntKind.wrap .i64 (j-1))).fld 16).i ((bf f (IntKind.wrap .i64 (j-1))).fld 17).i ((bf f (IntKind.wrap .i64 (j-1))).fld 18).i ((bf f (IntKind.wrap .i64 (j-1))).fld 19).i ((bf f (IntKind.wrap .i64 (j-1))).fld 20).i ((bf f (IntKind.wrap .i64 (j-1))).fld 21).l m u z A M N O U V W X Y ad ae ap ar ax a1 a6))) else (a7 x0 x1 x2 j x4 x5 x6 x7 x8 x9 a8 bb be bk bs bx bP bS bV b0 b1 b2 b3 b4 b5 f m u z A M N O U V W X Y ad ae ap ar ax a1 a6)) else (a7 x0 x1 x2 j x4 x5 x6 x7 x8 x9 a8 bb be bk bs bx bP bS bV b0 b1 b2 b3 b4 b5 f m u z A M N O U V W X Y ad ae ap ar ax a1 a6))
def t18 {R:Type} (j:zi R) (f:Q1 R):AK R :=
 fun x0 x1 x2 x3 x4 x5 x6 x7 x8 x9 m u z A M N O U V W X Y ad ae ap ar ax a1 a6 a7 a8 bb be bk bs bx bP bS bV b0 b1 b2 b3 b4 b5=>(bif (!x1) then (f (⟨#[]⟩:BA) (⟨#[]⟩:BA) (⟨#[]⟩:BA) false (⟨#[]⟩:BA) false (⟨#[]⟩:BA) false (⟨#[]⟩:BA) false (⟨#[]⟩:BA) false (⟨#[]⟩:BA) 0 0 0 0 0 false) else (bif (x3 != 1) then (f (⟨#[]⟩:BA) (⟨#[]⟩:BA) (⟨#[]⟩:BA) false (⟨#[]⟩:BA) false (⟨#[]⟩:BA) false (⟨#[]⟩:BA) false (⟨#[]⟩:BA) false (⟨#[]⟩:BA) 0 0 0 0 0 false) else (j x0 x2 x4 x5 x6 x7 x8 x9 m u z A M N O U V W X Y ad ae ap ar ax a1 a6 a7 a8 bb be bk bs bx bP bS bV b0 b1 b2 b3 b4 b5)))
def t20 {R:Type} (j9:J9 R):zi R :=
 fun x0 x1 x2 x3 x4 x5 x6 x7 x8 x9 f j m u z A M N O U V W X Y ad ae ap ar ax a1 a6 a7 a8 bb be bk bs bx bP bS bV b0 b1=>(j9 x0 false x1 x2 x3 x4 x5 x6 x7 x8 x9 f j m u z A M N O U V W X Y ad ae ap ar ax a1 a6 a7 a8 bb be bk bs bx bP bS bV b0 b1)
def e {R:Type} (c1:aI.F R) (a0:BA) (a1:BA) (a2:BA) (a3:LA) (a4:Bool) (a5:BA) (Y:Bool) (a7:BA) (a8:Bool) (a9:BA) (j:Bool) (m:BA) (a12:LA) (u:LA) (z:Bool) (A:BA) (M:Int) (N:Int) (O:Int) (U:Int) (a20:Int) (a21:LA) (f:BA) (j4:J4 R) (j8:J8 R) (j9:J9 R) (ae:qL R) (ap:AK R) (ar:zi R) (ad:Q0 R) (ax:Q1 R):Option R :=
 (bif (decide (f=(⟨#[]⟩:BA))) then (ad a0 a1 a2 a3 a4 a5 Y a7 a8 a9 j m a12 u z A M N O U a20 a21 true) else (c1 f (fun V=>(j4 f V a0 a1 a2 a3 a4 a5 Y a7 a8 a9 j m a12 u z A M N O U a20 a21 (⟨#[]⟩:BA) (⟨#[]⟩:BA) (⟨#[]⟩:BA) false (⟨#[]⟩:BA) false (⟨#[]⟩:BA) false (⟨#[]⟩:BA) false (⟨#[]⟩:BA) false (⟨#[]⟩:BA) 0 0 0 0 0 ([]:LA))) (fun W X=>(j4 f X a0 a1 a2 a3 a4 a5 Y a7 a8 a9 j m a12 u z A M N O U a20 a21 (⟨#[]⟩:BA) (⟨#[]⟩:BA) (⟨#[]⟩:BA) false (⟨#[]⟩:BA) false (⟨#[]⟩:BA) false (⟨#[]⟩:BA) false (⟨#[]⟩:BA) false (⟨#[]⟩:BA) 0 0 0 0 0 W))))
def M8 {R:Type} (c1:aI.F R) (m:Q0 R) (j:Q1 R):Nat->(J8 R) × (J9 R) × (qL R) × (AK R) × (zi R)
 | 0=>(fun _ _ _ _ _ _ _ _ _ _ _ _ _ _ _ _ _ _ _ _ _ _ _ _ _ _ _ _ _ _ _ _ _ _ _ _ _ _ _ _ _ _ _ _=>none,fun _ _ _ _ _ _ _ _ _ _ _ _ _ _ _ _ _ _ _ _ _ _ _ _ _ _ _ _ _ _ _ _ _ _ _ _ _ _ _ _ _ _ _ _=>none,fun _ _ _ _ _ _ _ _ _ _ _ _ _ _ _ _ _ _ _ _ _ _ _ _ _ _ _ _ _ _ _ _ _ _ _ _ _ _ _ _ _ _ _ _ _=>none,fun _ _ _ _ _ _ _ _ _ _ _ _ _ _ _ _ _ _ _ _ _ _ _ _ _ _ _ _ _ _ _ _ _ _ _ _ _ _ _ _ _ _ _ _ _=>none,fun _ _ _ _ _ _ _ _ _ _ _ _ _ _ _ _ _ _ _ _ _ _ _ _ _ _ _ _ _ _ _ _ _ _ _ _ _ _ _ _ _ _ _=>none)
 | f+1=>(t8 ((M8 c1 m j f).2.2.1) m,
  t9 ((M8 c1 m j f).1),
  t14 ((M8 c1 m j f).2.2.2.1) ((M8 c1 m j f).2.2.2.2) j,
  t18 ((M8 c1 m j f).2.2.2.2) j,
  t20 ((M8 c1 m j f).2.1))
def L8 {R:Type} (c1:aI.F R) (j:Q0 R) (m:Q1 R) (f:Nat):J8 R:=(M8 c1 j m f).1
def L9 {R:Type} (c1:aI.F R) (j:Q0 R) (m:Q1 R) (f:Nat):J9 R:=(M8 c1 j m f).2.1
def sO {R:Type} (c1:aI.F R) (j:Q0 R) (m:Q1 R) (f:Nat):qL R:=(M8 c1 j m f).2.2.1
def zk {R:Type} (c1:aI.F R) (j:Q0 R) (m:Q1 R) (f:Nat):AK R:=(M8 c1 j m f).2.2.2.1
def AL {R:Type} (c1:aI.F R) (j:Q0 R) (m:Q1 R) (f:Nat):zi R:=(M8 c1 j m f).2.2.2.2
def L4 {R:Type} (c1:aI.F R) (m:Q0 R) (j:Q1 R):Nat->J4 R
 | 0=>fun _ _ _ _ _ _ _ _ _ _ _ _ _ _ _ _ _ _ _ _ _ _ _ _ _ _ _ _ _ _ _ _ _ _ _ _ _ _ _ _ _ _ _=>none
 | f+1=>t4 (L8 c1 m j f) j
end bR
def bR {R:Type}:bR.F R:=fun a0 a1 a2 a3 a4 a5 X Y a8 a9 m u a12 z A M N O U V a20 a21 W f j=>bR.e aI a0 a1 a2 a3 a4 a5 X Y a8 a9 m u a12 z A M N O U V a20 a21 W (bR.L4 aI f j ag) (bR.L8 aI f j ag) (bR.L9 aI f j ag) (bR.sO aI f j ag) (bR.zk aI f j ag) (bR.AL aI f j ag) f j
abbrev cx.F (R:Type):Type:=LA->LA->(Bool->Option R)->Option R
namespace cx
abbrev J4 (R:Type):Type:=LA->LA->Int->Option R
def t4 {R:Type} (u:J4 R) (j:Bool->Option R):J4 R :=
 fun x0 m f=>(bif (decide (f<(x0.length:Int))) then (bF ((decide ((0:Int)<=f))&&(decide (f<(x0.length:Int)))) (bF ((decide ((0:Int)<=f))&&(decide (f<(m.length:Int)))) (bif (!((decide (((bf x0 f).fld 0).s=((bf m f).fld 0).s))&&((decide (((bf x0 f).fld 1).s=((bf m f).fld 1).s))&&true))) then (j false) else (u x0 m (IntKind.wrap .i64 (f+1)))))) else (j true))
def e {R:Type} (a0:LA) (a1:LA) (j:J4 R) (f:Bool->Option R):Option R :=
 (bif ((a0.length:Int) != (a1.length:Int)) then (f false) else (j a0 a1 0))
def L4 {R:Type} (j:Bool->Option R):Nat->J4 R
 | 0=>fun _ _ _=>none
 | f+1=>t4 (L4 j f) j
end cx
def cx {R:Type}:cx.F R:=fun a0 a1 f=>cx.e a0 a1 (cx.L4 f ag) f
abbrev cU.F (R:Type):Type:=LA->LA->(Bool->Option R)->Option R
namespace cU
abbrev J4 (R:Type):Type:=LA->LA->Int->Option R
def t4 {R:Type} (u:J4 R) (j:Bool->Option R):J4 R :=
 fun x0 m f=>(bif (decide (f<(x0.length:Int))) then (bF ((decide ((0:Int)<=f))&&(decide (f<(x0.length:Int)))) (bF ((decide ((0:Int)<=f))&&(decide (f<(m.length:Int)))) (bif (!decide ((bf x0 f).s=(bf m f).s)) then (j false) else (u x0 m (IntKind.wrap .i64 (f+1)))))) else (j true))
def e {R:Type} (a0:LA) (a1:LA) (j:J4 R) (f:Bool->Option R):Option R :=
 (bif ((a0.length:Int) != (a1.length:Int)) then (f false) else (j a0 a1 0))
def L4 {R:Type} (j:Bool->Option R):Nat->J4 R
 | 0=>fun _ _ _=>none
 | f+1=>t4 (L4 j f) j
end cU
def cU {R:Type}:cU.F R:=fun a0 a1 f=>cU.e a0 a1 (cU.L4 f ag) f
abbrev bz.F (R:Type):Type:=BA->BA->BA->LA->Bool->BA->Bool->BA->Bool->BA->Bool->BA->LA->LA->Bool->BA->Int->Int->Int->Int->Int->LA->BA->BA->BA->LA->Bool->BA->Bool->BA->Bool->BA->Bool->BA->LA->LA->Bool->BA->Int->Int->Int->Int->Int->LA->(Bool->Option R)->Option R
namespace bz
abbrev J6 (R:Type):Type:=Int->BA->BA->BA->LA->Bool->BA->Bool->BA->Bool->BA->Bool->BA->LA->LA->Bool->BA->Int->Int->Int->Int->Int->LA->BA->BA->BA->LA->Bool->BA->Bool->BA->Bool->BA->Bool->BA->LA->LA->Bool->BA->Int->Int->Int->Int->Int->LA->Option R
def t6 {R:Type} (c3:bz.F R) (j6:J6 R) (u:Bool->Option R):J6 R :=
 fun x0 x1 x2 x3 x4 x5 x6 x7 x8 x9 z A M N O U V W X Y ad ae f ap ar ax a1 a6 a7 a8 bb be bk bs bx bP bS bV b0 b1 b2 b3 b4 b5 j=>(bif (decide (x0<(f.length:Int))) then (bF ((decide ((0:Int)<=x0))&&(decide (x0<(f.length:Int)))) (bF ((decide ((0:Int)<=x0))&&(decide (x0<(j.length:Int)))) (c3 ((bf f x0).fld 0).s ((bf f x0).fld 1).s ((bf f x0).fld 2).s ((bf f x0).fld 3).l ((bf f x0).fld 4).b ((bf f x0).fld 5).s ((bf f x0).fld 6).b ((bf f x0).fld 7).s ((bf f x0).fld 8).b ((bf f x0).fld 9).s ((bf f x0).fld 10).b ((bf f x0).fld 11).s ((bf f x0).fld 12).l ((bf f x0).fld 13).l ((bf f x0).fld 14).b ((bf f x0).fld 15).s ((bf f x0).fld 16).i ((bf f x0).fld 17).i ((bf f x0).fld 18).i ((bf f x0).fld 19).i ((bf f x0).fld 20).i ((bf f x0).fld 21).l ((bf j x0).fld 0).s ((bf j x0).fld 1).s ((bf j x0).fld 2).s ((bf j x0).fld 3).l ((bf j x0).fld 4).b ((bf j x0).fld 5).s ((bf j x0).fld 6).b ((bf j x0).fld 7).s ((bf j x0).fld 8).b ((bf j x0).fld 9).s ((bf j x0).fld 10).b ((bf j x0).fld 11).s ((bf j x0).fld 12).l ((bf j x0).fld 13).l ((bf j x0).fld 14).b ((bf j x0).fld 15).s ((bf j x0).fld 16).i ((bf j x0).fld 17).i ((bf j x0).fld 18).i ((bf j x0).fld 19).i ((bf j x0).fld 20).i ((bf j x0).fld 21).l (fun m=>(bif (!m) then (u false) else (j6 (IntKind.wrap .i64 (x0+1)) x1 x2 x3 x4 x5 x6 x7 x8 x9 z A M N O U V W X Y ad ae f ap ar ax a1 a6 a7 a8 bb be bk bs bx bP bS bV b0 b1 b2 b3 b4 b5 j)))))) else (u true))
def e {R:Type} (c1:cx.F R) (c2:cU.F R) (c3:bz.F R) (a0:BA) (a1:BA) (a2:BA) (a3:LA) (a4:Bool) (a5:BA) (a6:Bool) (a7:BA) (a8:Bool) (a9:BA) (z:Bool) (A:BA) (a12:LA) (M:LA) (N:Bool) (O:BA) (U:Int) (V:Int) (W:Int) (X:Int) (a20:Int) (a21:LA) (Y:BA) (ad:BA) (a24:BA) (ae:LA) (ap:Bool) (ar:BA) (a28:Bool) (ax:BA) (bb:Bool) (a31:BA) (be:Bool) (bk:BA) (bs:LA) (bx:LA) (bP:Bool) (a37:BA) (bS:Int) (bV:Int) (a40:Int) (b0:Int) (b1:Int) (b2:LA) (j6:J6 R) (f:Bool->Option R):Option R :=
 (bif (!decide (a0=Y)) then (f false) else (bif (!decide (a1=ad)) then (f false) else (bif (!decide (a2=a24)) then (f false) else (bif (!((a4 == ap)&&((decide (a5=ar))&&true))) then (f false) else (bif (!((a6 == a28)&&((decide (a7=ax))&&true))) then (f false) else (bif (!((a8 == bb)&&((decide (a9=a31))&&true))) then (f false) else (bif (!((z == be)&&((decide (A=bk))&&true))) then (f false) else (bif (!((N == bP)&&((decide (O=a37))&&true))) then (f false) else (bif (!((U == bS)&&((V == bV)&&true))) then (f false) else (bif (!((W == a40)&&((X == b0)&&true))) then (f false) else (bif (a20 != b1) then (f false) else (c1 a3 ae (fun j=>(bif (!j) then (f false) else (c1 a12 bs (fun m=>(bif (!m) then (f false) else (c2 M bx (fun u=>(bif (!u) then (f false) else (bif ((a21.length:Int) != (b2.length:Int)) then (f false) else (j6 0 a0 a1 a2 a3 a4 a5 a6 a7 a8 a9 z A a12 M N O U V W X a20 a21 Y ad a24 ae ap ar a28 ax bb a31 be bk bs bx bP a37 bS bV a40 b0 b1 b2))))))))))))))))))))))
def L6 {R:Type} (c1:cx.F R) (c2:cU.F R) (c3:bz.F R) (j:Bool->Option R):Nat->J6 R
 | 0=>fun _ _ _ _ _ _ _ _ _ _ _ _ _ _ _ _ _ _ _ _ _ _ _ _ _ _ _ _ _ _ _ _ _ _ _ _ _ _ _ _ _ _ _ _ _=>none
 | f+1=>t6 c3 (L6 c1 c2 c3 j f) j
def B {R:Type} (c1:cx.F R) (c2:cU.F R) (c3:bz.F R):F R:=fun a0 a1 a2 a3 a4 a5 a6 a7 a8 a9 j m a12 u z A M N O U a20 a21 V W a24 X Y ad a28 ae ap a31 ar ax bb be bk a37 bs bx a40 bP bS bV f=>e c1 c2 c3 a0 a1 a2 a3 a4 a5 a6 a7 a8 a9 j m a12 u z A M N O U a20 a21 V W a24 X Y ad a28 ae ap a31 ar ax bb be bk a37 bs bx a40 bP bS bV (L6 c1 c2 c3 f ag) f
def R {R:Type}:Nat->F R
 | 0=>fun _ _ _ _ _ _ _ _ _ _ _ _ _ _ _ _ _ _ _ _ _ _ _ _ _ _ _ _ _ _ _ _ _ _ _ _ _ _ _ _ _ _ _ _ _=>none
 | n+1=>B cx cU (bz.R n)
end bz
def bz {R:Type}:bz.F R:=bz.R ag
end
end Go.Proofs.Ab
