/- What each function computes, as a plain Lean function, printed by a program of ours (definitions alone). -/
import Derived.Test.YtneffefnlogkaaaDoorAbC
set_option linter.unusedVariables false
set_option linter.unusedSimpArgs false
set_option maxRecDepth 4000
namespace Go.Proofs.Ab
open Go
abbrev BA:=ByteArray
abbrev LA:=List AV
abbrev bw.F (R:Type):Type:=BA->BA->(Bool->Option R)->Option R
namespace bw
def e {R:Type} (a0:BA) (a1:BA) (κ0:Bool->Option R):Option R :=
 (bif (decide ((a0.size:Int)>=(a1.size:Int))) then (bW ((decide ((0:Int)<=(a1.size:Int)))&&(decide ((a1.size:Int)<=(a0.size:Int)))) (κ0 (decide ((a0.extract ((0:Int)).toNat ((a1.size:Int)).toNat)=a1)))) else (κ0 false))
end bw
def bw {R:Type}:bw.F R:=fun a0 a1 κ0=>bw.e a0 a1 κ0
abbrev aU.F (R:Type):Type:=BA->BA->(Bool->Option R)->Option R
namespace aU
def e {R:Type} (c1:bw.F R) (a0:BA) (a1:BA) (κ0:Bool->Option R):Option R :=
 (c1 a0 a1 (fun r1=>(κ0 r1)))
end aU
def aU {R:Type}:aU.F R:=fun a0 a1 κ0=>aU.e bw a0 a1 κ0
abbrev cj.F (R:Type):Type:=BA->Int->(Int->Option R)->Option R
def cj {R:Type} (a0:BA) (a1:Int) (κ0:Int->Option R):Option R:=κ0 (Lib.indexByte a0.data.toList a1.toNat.toUInt8)
abbrev bL.F (R:Type):Type:=BA->Int->(Int->Option R)->Option R
namespace bL
def e {R:Type} (c1:cj.F R) (a0:BA) (a1:Int) (κ0:Int->Option R):Option R :=
 (c1 a0 a1 (fun r3=>(κ0 r3)))
end bL
def bL {R:Type}:bL.F R:=fun a0 a1 κ0=>bL.e cj a0 a1 κ0
abbrev cT.F (R:Type):Type:=BA->BA->(Int->Option R)->Option R
def cT {R:Type} (a0 a1:BA) (κ0:Int->Option R):Option R:=bW (decide (a0.size<4294967281∨a1=⟨#[46]⟩)) (κ0 (Lib.index a0.data.toList a1.data.toList))
abbrev aE.F (R:Type):Type:=BA->BA->(Int->Option R)->Option R
namespace aE
def e {R:Type} (c1:cT.F R) (a0:BA) (a1:BA) (κ0:Int->Option R):Option R :=
 (c1 a0 a1 (fun r4=>(κ0 r4)))
end aE
def aE {R:Type}:aE.F R:=fun a0 a1 κ0=>aE.e cT a0 a1 κ0
abbrev cJ.F (R:Type):Type:=BA->(BA->BA->Option R)->Option R
namespace cJ
def e {R:Type} (c1:aU.F R) (c2:aE.F R) (a0:BA) (κ0:BA->BA->Option R):Option R :=
 (c1 a0 (⟨#[13,10]⟩:BA) (fun r2=>(bif r2 then (bW (decide ((2:Int)<=(a0.size:Int))) (bW ((decide ((2:Int)<=(a0.size:Int)))&&(decide ((a0.size:Int)<=(a0.size:Int)))) (κ0 (a0.extract ((0:Int)).toNat ((2:Int)).toNat) (a0.extract ((2:Int)).toNat ((a0.size:Int)).toNat)))) else (c2 a0 (⟨#[13,10,13,10]⟩:BA) (fun r5=>(bif (decide (r5>=(0:Int))) then (bW ((decide ((0:Int)<=(IntKind.wrap .i64 (r5+4))))&&(decide ((IntKind.wrap .i64 (r5+4))<=(a0.size:Int)))) (bW ((decide ((0:Int)<=(IntKind.wrap .i64 (r5+4))))&&((decide ((IntKind.wrap .i64 (r5+4))<=(a0.size:Int)))&&(decide ((a0.size:Int)<=(a0.size:Int))))) (κ0 (a0.extract ((0:Int)).toNat ((IntKind.wrap .i64 (r5+4))).toNat) (a0.extract ((IntKind.wrap .i64 (r5+4))).toNat ((a0.size:Int)).toNat)))) else (κ0 a0 (⟨#[]⟩:BA))))))))
end cJ
def cJ {R:Type}:cJ.F R:=fun a0 κ0=>cJ.e aU aE a0 κ0
abbrev aR.F (R:Type):Type:=Int->(Bool->Option R)->Option R
namespace aR
def e {R:Type} (a0:Int) (κ0:Bool->Option R):Option R :=
 (bif (a0 == 32) then (κ0 true) else (κ0 (a0 == 9)))
end aR
def aR {R:Type}:aR.F R:=fun a0 κ0=>aR.e a0 κ0
abbrev bt.F (R:Type):Type:=BA->(BA->Bool->Option R)->Option R
namespace bt
abbrev J5 (R:Type):Type:=BA->Int->BA->Option R
def t2 {R:Type} (j2:BA->Int->Option R) (j5:J5 R):BA->Int->Option R :=
 fun x0 x1=>(bif (decide (x1<(x0.size:Int))) then (bW ((decide ((0:Int)<=x1))&&(decide (x1<(x0.size:Int)))) (bif (decide ((ed x0 x1)>(32:Int))) then (bW ((decide ((0:Int)<=x1))&&(decide (x1<(x0.size:Int)))) (bif (decide ((ed x0 x1)<(127:Int))) then (bW ((decide ((0:Int)<=x1))&&(decide (x1<(x0.size:Int)))) (bif ((ed x0 x1) != 58) then (j2 x0 (IntKind.wrap .i64 (x1+1))) else (bW ((decide ((0:Int)<=x1))&&(decide (x1<=(x0.size:Int)))) (j5 x0 x1 (x0.extract ((0:Int)).toNat (x1).toNat))))) else (bW ((decide ((0:Int)<=x1))&&(decide (x1<=(x0.size:Int)))) (j5 x0 x1 (x0.extract ((0:Int)).toNat (x1).toNat))))) else (bW ((decide ((0:Int)<=x1))&&(decide (x1<=(x0.size:Int)))) (j5 x0 x1 (x0.extract ((0:Int)).toNat (x1).toNat))))) else (bW ((decide ((0:Int)<=x1))&&(decide (x1<=(x0.size:Int)))) (j5 x0 x1 (x0.extract ((0:Int)).toNat (x1).toNat))))
def t5 {R:Type} (c1:aR.F R) (j5:J5 R) (κ0:BA->Bool->Option R):J5 R :=
 fun x0 x1 x2=>(bif (decide (x1<(x0.size:Int))) then (bW ((decide ((0:Int)<=x1))&&(decide (x1<(x0.size:Int)))) (c1 (ed x0 x1) (fun r11=>(bif r11 then (j5 x0 (IntKind.wrap .i64 (x1+1)) x2) else (bif (!decide (x2=(⟨#[]⟩:BA))) then (bif (decide (x1<(x0.size:Int))) then (bW ((decide ((0:Int)<=x1))&&(decide (x1<(x0.size:Int)))) (κ0 x2 ((ed x0 x1) == 58))) else (κ0 x2 false)) else (κ0 x2 false)))))) else (bif (!decide (x2=(⟨#[]⟩:BA))) then (bif (decide (x1<(x0.size:Int))) then (bW ((decide ((0:Int)<=x1))&&(decide (x1<(x0.size:Int)))) (κ0 x2 ((ed x0 x1) == 58))) else (κ0 x2 false)) else (κ0 x2 false)))
def e {R:Type} (c1:aR.F R) (a0:BA) (j2:BA->Int->Option R) (j5:J5 R) (κ0:BA->Bool->Option R):Option R :=
 (j2 a0 0)
def L5 {R:Type} (c1:aR.F R) (κ0:BA->Bool->Option R):Nat->J5 R
 | 0=>fun _ _ _=>none
 | f+1=>t5 c1 (L5 c1 κ0 f) κ0
def L2 {R:Type} (c1:aR.F R) (κ0:BA->Bool->Option R):Nat->BA->Int->Option R
 | 0=>fun _ _=>none
 | f+1=>t2 (L2 c1 κ0 f) (L5 c1 κ0 f)
end bt
def bt {R:Type}:bt.F R:=fun a0 κ0=>bt.e aR a0 (bt.L2 aR κ0 aH) (bt.L5 aR κ0 aH) κ0
abbrev bj.F (R:Type):Type:=BA->(LA->Option R)->Option R
namespace bj
abbrev J3 (R:Type):Type:=BA->Bool->BA->LA->Option R
def t3 {R:Type} (c1:aU.F R) (c2:aE.F R) (c3:aR.F R) (c4:bt.F R) (j3:J3 R) (κ0:LA->Option R):J3 R :=
 fun x0 x1 x2 x3=>(bif (!decide (x0=(⟨#[]⟩:BA))) then (c1 x0 (⟨#[13,10]⟩:BA) (fun r14=>(bif (!r14) then (c2 x0 (⟨#[13,10]⟩:BA) (fun r15=>(bif (decide (r15>=(0:Int))) then (bW ((decide ((0:Int)<=(IntKind.wrap .i64 (r15+2))))&&(decide ((IntKind.wrap .i64 (r15+2))<=(x0.size:Int)))) (bW (decide ((0:Int)<(x0.size:Int))) (c3 (ed x0 0) (fun r16=>(bif (!r16) then (c4 (x0.extract ((0:Int)).toNat ((IntKind.wrap .i64 (r15+2))).toNat) (fun r17 r18=>(bW (decide ((x3.length+1)*40<=140737488355328)) (bW ((decide ((0:Int)<=(IntKind.wrap .i64 (r15+2))))&&((decide ((IntKind.wrap .i64 (r15+2))<=(x0.size:Int)))&&(decide ((x0.size:Int)<=(x0.size:Int))))) (j3 (x0.extract ((IntKind.wrap .i64 (r15+2))).toNat ((x0.size:Int)).toNat) r18 r17 (x3++[AV.agg [AV.str (x0.extract ((0:Int)).toNat ((IntKind.wrap .i64 (r15+2))).toNat),AV.str r17,AV.bool r18,AV.bool r18]])))))) else (bW (decide ((x3.length+1)*40<=140737488355328)) (bW ((decide ((0:Int)<=(IntKind.wrap .i64 (r15+2))))&&((decide ((IntKind.wrap .i64 (r15+2))<=(x0.size:Int)))&&(decide ((x0.size:Int)<=(x0.size:Int))))) (j3 (x0.extract ((IntKind.wrap .i64 (r15+2))).toNat ((x0.size:Int)).toNat) x1 x2 (x3++[AV.agg [AV.str (x0.extract ((0:Int)).toNat ((IntKind.wrap .i64 (r15+2))).toNat),AV.str x2,AV.bool false,AV.bool x1]]))))))))) else (bW ((decide ((0:Int)<=(x0.size:Int)))&&(decide ((x0.size:Int)<=(x0.size:Int)))) (bW (decide ((0:Int)<(x0.size:Int))) (c3 (ed x0 0) (fun r19=>(bif (!r19) then (c4 (x0.extract ((0:Int)).toNat ((x0.size:Int)).toNat) (fun r20 r21=>(bW (decide ((x3.length+1)*40<=140737488355328)) (bW ((decide ((0:Int)<=(x0.size:Int)))&&((decide ((x0.size:Int)<=(x0.size:Int)))&&(decide ((x0.size:Int)<=(x0.size:Int))))) (j3 (x0.extract ((x0.size:Int)).toNat ((x0.size:Int)).toNat) r21 r20 (x3++[AV.agg [AV.str (x0.extract ((0:Int)).toNat ((x0.size:Int)).toNat),AV.str r20,AV.bool r21,AV.bool r21]])))))) else (bW (decide ((x3.length+1)*40<=140737488355328)) (bW ((decide ((0:Int)<=(x0.size:Int)))&&((decide ((x0.size:Int)<=(x0.size:Int)))&&(decide ((x0.size:Int)<=(x0.size:Int))))) (j3 (x0.extract ((x0.size:Int)).toNat ((x0.size:Int)).toNat) x1 x2 (x3++[AV.agg [AV.str (x0.extract ((0:Int)).toNat ((x0.size:Int)).toNat),AV.str x2,AV.bool false,AV.bool x1]])))))))))))) else (κ0 x3)))) else (κ0 x3))
def e {R:Type} (c1:aU.F R) (c2:aE.F R) (c3:aR.F R) (c4:bt.F R) (a0:BA) (j3:J3 R) (κ0:LA->Option R):Option R :=
 (j3 a0 false (⟨#[]⟩:BA) ([]:LA))
def L3 {R:Type} (c1:aU.F R) (c2:aE.F R) (c3:aR.F R) (c4:bt.F R) (κ0:LA->Option R):Nat->J3 R
 | 0=>fun _ _ _ _=>none
 | f+1=>t3 c1 c2 c3 c4 (L3 c1 c2 c3 c4 κ0 f) κ0
end bj
def bj {R:Type}:bj.F R:=fun a0 κ0=>bj.e aU aE aR bt a0 (bj.L3 aU aE aR bt κ0 aH) κ0
abbrev bz.F (R:Type):Type:=BA->BA->(Bool->Option R)->Option R
namespace bz
def e {R:Type} (a0:BA) (a1:BA) (κ0:Bool->Option R):Option R :=
 (bif (decide ((a0.size:Int)>=(a1.size:Int))) then (bW ((decide ((0:Int)<=(IntKind.wrap .i64 ((a0.size:Int)-(a1.size:Int)))))&&((decide ((IntKind.wrap .i64 ((a0.size:Int)-(a1.size:Int)))<=(a0.size:Int)))&&(decide ((a0.size:Int)<=(a0.size:Int))))) (κ0 (decide ((a0.extract ((IntKind.wrap .i64 ((a0.size:Int)-(a1.size:Int)))).toNat ((a0.size:Int)).toNat)=a1)))) else (κ0 false))
end bz
def bz {R:Type}:bz.F R:=fun a0 a1 κ0=>bz.e a0 a1 κ0
abbrev bU.F (R:Type):Type:=BA->BA->(BA->Option R)->Option R
namespace bU
def e {R:Type} (c1:bz.F R) (a0:BA) (a1:BA) (κ0:BA->Option R):Option R :=
 (c1 a0 a1 (fun r23=>(bif r23 then (bW ((decide ((0:Int)<=(IntKind.wrap .i64 ((a0.size:Int)-(a1.size:Int)))))&&(decide ((IntKind.wrap .i64 ((a0.size:Int)-(a1.size:Int)))<=(a0.size:Int)))) (κ0 (a0.extract ((0:Int)).toNat ((IntKind.wrap .i64 ((a0.size:Int)-(a1.size:Int)))).toNat))) else (κ0 a0))))
end bU
def bU {R:Type}:bU.F R:=fun a0 a1 κ0=>bU.e bz a0 a1 κ0
abbrev aI.F (R:Type):Type:=BA->BA->(BA->Option R)->Option R
namespace aI
def e {R:Type} (c1:bU.F R) (a0:BA) (a1:BA) (κ0:BA->Option R):Option R :=
 (c1 a0 a1 (fun r24=>(κ0 r24)))
end aI
def aI {R:Type}:aI.F R:=fun a0 a1 κ0=>aI.e bU a0 a1 κ0
abbrev av.F (R:Type):Type:=BA->Int->(Int->Option R)->Option R
namespace av
def e {R:Type} (c1:bL.F R) (a0:BA) (a1:Int) (κ0:Int->Option R):Option R :=
 (c1 a0 a1 (fun r26=>(κ0 r26)))
end av
def av {R:Type}:av.F R:=fun a0 a1 κ0=>av.e bL a0 a1 κ0
abbrev bE.F (R:Type):Type:=BA->Int->(BA->Option R)->Option R
namespace bE
def t1 {R:Type} (j1:BA->Int->Option R) (κ0:BA->Option R):BA->Int->Option R :=
 fun x0 x1=>(bif (decide ((x0.size:Int)>(0:Int))) then (bW ((decide ((0:Int)<=(IntKind.wrap .i64 ((x0.size:Int)-1))))&&(decide ((IntKind.wrap .i64 ((x0.size:Int)-1))<(x0.size:Int)))) (bif ((ed x0 (IntKind.wrap .i64 ((x0.size:Int)-1))) == x1) then (bW ((decide ((0:Int)<=(IntKind.wrap .i64 ((x0.size:Int)-1))))&&(decide ((IntKind.wrap .i64 ((x0.size:Int)-1))<=(x0.size:Int)))) (j1 (x0.extract ((0:Int)).toNat ((IntKind.wrap .i64 ((x0.size:Int)-1))).toNat) x1)) else (κ0 x0))) else (κ0 x0))
def e {R:Type} (a0:BA) (a1:Int) (j1:BA->Int->Option R) (κ0:BA->Option R):Option R :=
 (j1 a0 a1)
def L1 {R:Type} (κ0:BA->Option R):Nat->BA->Int->Option R
 | 0=>fun _ _=>none
 | f+1=>t1 (L1 κ0 f) κ0
end bE
def bE {R:Type}:bE.F R:=fun a0 a1 κ0=>bE.e a0 a1 (bE.L1 κ0 aH) κ0
abbrev bI.F (R:Type):Type:=BA->Int->(BA->Option R)->Option R
namespace bI
def t1 {R:Type} (j1:BA->Int->Option R) (κ0:BA->Option R):BA->Int->Option R :=
 fun x0 x1=>(bif (decide ((x0.size:Int)>(0:Int))) then (bW (decide ((0:Int)<(x0.size:Int))) (bif ((ed x0 0) == x1) then (bW ((decide ((1:Int)<=(x0.size:Int)))&&(decide ((x0.size:Int)<=(x0.size:Int)))) (j1 (x0.extract ((1:Int)).toNat ((x0.size:Int)).toNat) x1)) else (κ0 x0))) else (κ0 x0))
def e {R:Type} (a0:BA) (a1:Int) (j1:BA->Int->Option R) (κ0:BA->Option R):Option R :=
 (j1 a0 a1)
def L1 {R:Type} (κ0:BA->Option R):Nat->BA->Int->Option R
 | 0=>fun _ _=>none
 | f+1=>t1 (L1 κ0 f) κ0
end bI
def bI {R:Type}:bI.F R:=fun a0 a1 κ0=>bI.e a0 a1 (bI.L1 κ0 aH) κ0
abbrev bG.F (R:Type):Type:=BA->(LA->Bool->Option R)->Option R
namespace bG
abbrev J2 (R:Type):Type:=BA->Int->LA->Option R
def t2 {R:Type} (j2:J2 R) (κ0:LA->Bool->Option R):J2 R :=
 fun x0 x1 x2=>(bif (decide (x1<(x0.size:Int))) then (bW ((decide ((0:Int)<=x1))&&(decide (x1<(x0.size:Int)))) (bif (decide ((ed x0 x1)>=(128:Int))) then (κ0 x2 false) else (bW ((decide ((0:Int)<=(ed x0 x1)))&&(decide ((ed x0 x1)<(256:Int)))) (j2 x0 (IntKind.wrap .i64 (x1+1)) (dW x2 (ed x0 x1) (AV.bool true)))))) else (κ0 x2 true))
def e {R:Type} (a0:BA) (j2:J2 R) (κ0:LA->Bool->Option R):Option R :=
 (j2 a0 0 (List.replicate 256 (AV.bool false)))
def L2 {R:Type} (κ0:LA->Bool->Option R):Nat->J2 R
 | 0=>fun _ _ _=>none
 | f+1=>t2 (L2 κ0 f) κ0
end bG
def bG {R:Type}:bG.F R:=fun a0 κ0=>bG.e a0 (bG.L2 κ0 aH) κ0
abbrev ai.F (R:Type):Type:=LA->Int->(Bool->Option R)->Option R
namespace ai
def e {R:Type} (a0:LA) (a1:Int) (κ0:Bool->Option R):Option R :=
 (bW ((decide ((0:Int)<=a1))&&(decide (a1<(256:Int)))) (κ0 (bZ a0 a1).b))
end ai
def ai {R:Type}:ai.F R:=fun a0 a1 κ0=>ai.e a0 a1 κ0
abbrev ba.F (R:Type):Type:=BA->LA->(BA->Option R)->Option R
namespace ba
def t1 {R:Type} (c1:ai.F R) (j1:BA->LA->Option R) (κ0:BA->Option R):BA->LA->Option R :=
 fun x0 x1=>(bif (decide ((x0.size:Int)>(0:Int))) then (bW ((decide ((0:Int)<=(IntKind.wrap .i64 ((x0.size:Int)-1))))&&(decide ((IntKind.wrap .i64 ((x0.size:Int)-1))<(x0.size:Int)))) (c1 x1 (ed x0 (IntKind.wrap .i64 ((x0.size:Int)-1))) (fun r37=>(bif (!r37) then (κ0 x0) else (bW ((decide ((0:Int)<=(IntKind.wrap .i64 ((x0.size:Int)-1))))&&(decide ((IntKind.wrap .i64 ((x0.size:Int)-1))<=(x0.size:Int)))) (j1 (x0.extract ((0:Int)).toNat ((IntKind.wrap .i64 ((x0.size:Int)-1))).toNat) x1)))))) else (κ0 x0))
def e {R:Type} (c1:ai.F R) (a0:BA) (a1:LA) (j1:BA->LA->Option R) (κ0:BA->Option R):Option R :=
 (j1 a0 a1)
def L1 {R:Type} (c1:ai.F R) (κ0:BA->Option R):Nat->BA->LA->Option R
 | 0=>fun _ _=>none
 | f+1=>t1 c1 (L1 c1 κ0 f) κ0
end ba
def ba {R:Type}:ba.F R:=fun a0 a1 κ0=>ba.e ai a0 a1 (ba.L1 ai κ0 aH) κ0
abbrev bb.F (R:Type):Type:=BA->LA->(BA->Option R)->Option R
namespace bb
def t1 {R:Type} (c1:ai.F R) (j1:BA->LA->Option R) (κ0:BA->Option R):BA->LA->Option R :=
 fun x0 x1=>(bif (decide ((x0.size:Int)>(0:Int))) then (bW (decide ((0:Int)<(x0.size:Int))) (c1 x1 (ed x0 0) (fun r39=>(bif (!r39) then (κ0 x0) else (bW ((decide ((1:Int)<=(x0.size:Int)))&&(decide ((x0.size:Int)<=(x0.size:Int)))) (j1 (x0.extract ((1:Int)).toNat ((x0.size:Int)).toNat) x1)))))) else (κ0 x0))
def e {R:Type} (c1:ai.F R) (a0:BA) (a1:LA) (j1:BA->LA->Option R) (κ0:BA->Option R):Option R :=
 (j1 a0 a1)
def L1 {R:Type} (c1:ai.F R) (κ0:BA->Option R):Nat->BA->LA->Option R
 | 0=>fun _ _=>none
 | f+1=>t1 c1 (L1 c1 κ0 f) κ0
end bb
def bb {R:Type}:bb.F R:=fun a0 a1 κ0=>bb.e ai a0 a1 (bb.L1 ai κ0 aH) κ0
abbrev bo.F (R:Type):Type:=BA->BA->(BA->Option R)->Option R
namespace bo
def e {R:Type} (c1:bE.F R) (c2:bI.F R) (c3:bG.F R) (c4:ba.F R) (c5:bb.F R) (a0:BA) (a1:BA) (κ0:BA->Option R):Option R :=
 (bif (decide (a0=(⟨#[]⟩:BA))) then (κ0 a0) else (bif (decide (a1=(⟨#[]⟩:BA))) then (κ0 a0) else (bif ((a1.size:Int) == 1) then (bW (decide ((0:Int)<(a1.size:Int))) (bif (decide ((ed a1 0)<(128:Int))) then (bW (decide ((0:Int)<(a1.size:Int))) (c1 a0 (ed a1 0) (fun r33=>(bW (decide ((0:Int)<(a1.size:Int))) (c2 r33 (ed a1 0) (fun r34=>(κ0 r34))))))) else (c3 a1 (fun r35 r36=>(bif r36 then (c4 a0 r35 (fun r38=>(c5 r38 r35 (fun r40=>(κ0 r40))))) else none))))) else (c3 a1 (fun r42 r43=>(bif r43 then (c4 a0 r42 (fun r44=>(c5 r44 r42 (fun r45=>(κ0 r45))))) else none))))))
end bo
def bo {R:Type}:bo.F R:=fun a0 a1 κ0=>bo.e bE bI bG ba bb a0 a1 κ0
abbrev aT.F (R:Type):Type:=BA->(LA->Option R)->Option R
namespace aT
abbrev J4 (R:Type):Type:=Int->Int->LA->LA->LA->Option R
abbrev J8 (R:Type):Type:=Int->Int->LA->LA->BA->BA->Bool->Bool->LA->Option R
abbrev Dq (R:Type):Type:=BA->Int->Int->LA->LA->BA->BA->Bool->Bool->LA->Option R
abbrev my (R:Type):Type:=Int->Int->LA->LA->LA->Option R
abbrev Ds (R:Type):Type:=Int->Int->LA->LA->Option R
def t4 {R:Type} (j8:J8 R) (j15:my R) (j17:Ds R):J4 R :=
 fun x0 x1 x2 x3 x4=>(bif (decide (x1<x0)) then (bW ((decide ((0:Int)<=x1))&&(decide (x1<(x4.length:Int)))) (bif (!((bZ x4 x1).fld 3).b) then (bif ((bZ x4 x1).fld 2).b then (j17 (x2.length:Int) 0 x2 x3) else (j15 x0 x1 x2 x3 x4)) else (bif ((bZ x4 x1).fld 2).b then (bif ((x2.length:Int) == 64) then (bif ((bZ x4 x1).fld 2).b then (j17 (x2.length:Int) 0 x2 x3) else (j15 x0 x1 x2 x3 x4)) else (j8 x0 x1 x2 x3 ((bZ x4 x1).fld 0).s ((bZ x4 x1).fld 1).s ((bZ x4 x1).fld 2).b ((bZ x4 x1).fld 3).b x4)) else (j8 x0 x1 x2 x3 ((bZ x4 x1).fld 0).s ((bZ x4 x1).fld 1).s ((bZ x4 x1).fld 2).b ((bZ x4 x1).fld 3).b x4)))) else (j17 (x2.length:Int) 0 x2 x3))
def t8 {R:Type} (c3:aI.F R) (c4:av.F R) (j13:Dq R):J8 R :=
 fun x0 x1 x2 x3 x4 x5 x6 x7 x8=>(c3 x4 (⟨#[13,10]⟩:BA) (fun r90=>(bif x6 then (bW (decide ((x2.length+1)*48<=140737488355328)) (bW (decide ((x3.length+1)*16<=140737488355328)) (c4 r90 58 (fun r91=>(bW ((decide ((0:Int)<=(IntKind.wrap .i64 (r91+1))))&&((decide ((IntKind.wrap .i64 (r91+1))<=(r90.size:Int)))&&(decide ((r90.size:Int)<=(r90.size:Int))))) (j13 (r90.extract ((IntKind.wrap .i64 (r91+1))).toNat ((r90.size:Int)).toNat) x0 x1 (x2++[AV.agg [AV.str x5,AV.str (⟨#[]⟩:BA),AV.str (⟨#[]⟩:BA)]]) (x3++[AV.str (⟨#[]⟩:BA)]) x4 x5 x6 x7 x8)))))) else (j13 r90 x0 x1 x2 x3 x4 x5 x6 x7 x8))))
def t13 {R:Type} (j15:my R):Dq R :=
 fun x0 x1 x2 x3 x4 x5 x6 x7 x8 x9=>(bW ((decide ((0:Int)<=(IntKind.wrap .i64 ((x3.length:Int)-1))))&&(decide ((IntKind.wrap .i64 ((x3.length:Int)-1))<(x3.length:Int)))) (bW (decide (((bZ x3 (IntKind.wrap .i64 ((x3.length:Int)-1))).fld 2).s.size+x5.size<=9223372036854775807)) (bW ((decide ((0:Int)<=(IntKind.wrap .i64 ((x3.length:Int)-1))))&&(decide ((IntKind.wrap .i64 ((x3.length:Int)-1))<(x3.length:Int)))) (bW ((decide ((0:Int)<=(IntKind.wrap .i64 (((dW x3 (IntKind.wrap .i64 ((x3.length:Int)-1)) (AV.agg [AV.str ((bZ x3 (IntKind.wrap .i64 ((x3.length:Int)-1))).fld 0).s,AV.str ((bZ x3 (IntKind.wrap .i64 ((x3.length:Int)-1))).fld 1).s,AV.str (((bZ x3 (IntKind.wrap .i64 ((x3.length:Int)-1))).fld 2).s++x5)])).length:Int)-1))))&&(decide ((IntKind.wrap .i64 (((dW x3 (IntKind.wrap .i64 ((x3.length:Int)-1)) (AV.agg [AV.str ((bZ x3 (IntKind.wrap .i64 ((x3.length:Int)-1))).fld 0).s,AV.str ((bZ x3 (IntKind.wrap .i64 ((x3.length:Int)-1))).fld 1).s,AV.str (((bZ x3 (IntKind.wrap .i64 ((x3.length:Int)-1))).fld 2).s++x5)])).length:Int)-1))<(x4.length:Int)))) (bW (decide ((bZ x4 (IntKind.wrap .i64 (((dW x3 (IntKind.wrap .i64 ((x3.length:Int)-1)) (AV.agg [AV.str ((bZ x3 (IntKind.wrap .i64 ((x3.length:Int)-1))).fld 0).s,AV.str ((bZ x3 (IntKind.wrap .i64 ((x3.length:Int)-1))).fld 1).s,AV.str (((bZ x3 (IntKind.wrap .i64 ((x3.length:Int)-1))).fld 2).s++x5)])).length:Int)-1))).s.size+x0.size<=9223372036854775807)) (bW ((decide ((0:Int)<=(IntKind.wrap .i64 (((dW x3 (IntKind.wrap .i64 ((x3.length:Int)-1)) (AV.agg [AV.str ((bZ x3 (IntKind.wrap .i64 ((x3.length:Int)-1))).fld 0).s,AV.str ((bZ x3 (IntKind.wrap .i64 ((x3.length:Int)-1))).fld 1).s,AV.str (((bZ x3 (IntKind.wrap .i64 ((x3.length:Int)-1))).fld 2).s++x5)])).length:Int)-1))))&&(decide ((IntKind.wrap .i64 (((dW x3 (IntKind.wrap .i64 ((x3.length:Int)-1)) (AV.agg [AV.str ((bZ x3 (IntKind.wrap .i64 ((x3.length:Int)-1))).fld 0).s,AV.str ((bZ x3 (IntKind.wrap .i64 ((x3.length:Int)-1))).fld 1).s,AV.str (((bZ x3 (IntKind.wrap .i64 ((x3.length:Int)-1))).fld 2).s++x5)])).length:Int)-1))<(x4.length:Int)))) (j15 x1 x2 (dW x3 (IntKind.wrap .i64 ((x3.length:Int)-1)) (AV.agg [AV.str ((bZ x3 (IntKind.wrap .i64 ((x3.length:Int)-1))).fld 0).s,AV.str ((bZ x3 (IntKind.wrap .i64 ((x3.length:Int)-1))).fld 1).s,AV.str (((bZ x3 (IntKind.wrap .i64 ((x3.length:Int)-1))).fld 2).s++x5)])) (dW x4 (IntKind.wrap .i64 (((dW x3 (IntKind.wrap .i64 ((x3.length:Int)-1)) (AV.agg [AV.str ((bZ x3 (IntKind.wrap .i64 ((x3.length:Int)-1))).fld 0).s,AV.str ((bZ x3 (IntKind.wrap .i64 ((x3.length:Int)-1))).fld 1).s,AV.str (((bZ x3 (IntKind.wrap .i64 ((x3.length:Int)-1))).fld 2).s++x5)])).length:Int)-1)) (AV.str ((bZ x4 (IntKind.wrap .i64 (((dW x3 (IntKind.wrap .i64 ((x3.length:Int)-1)) (AV.agg [AV.str ((bZ x3 (IntKind.wrap .i64 ((x3.length:Int)-1))).fld 0).s,AV.str ((bZ x3 (IntKind.wrap .i64 ((x3.length:Int)-1))).fld 1).s,AV.str (((bZ x3 (IntKind.wrap .i64 ((x3.length:Int)-1))).fld 2).s++x5)])).length:Int)-1))).s++x0))) x9)))))))
def t15 {R:Type} (j4:J4 R):my R :=
 fun x0 x1 x2 x3 x4=>(j4 x0 (IntKind.wrap .i64 (x1+1)) x2 x3 x4)
def t17 {R:Type} (c2:bo.F R) (j17:Ds R) (κ0:LA->Option R):Ds R :=
 fun x0 x1 x2 x3=>(bif (decide (x1<x0)) then (bW ((decide ((0:Int)<=x1))&&(decide (x1<(x3.length:Int)))) (c2 (bZ x3 x1).s (⟨#[32,9]⟩:BA) (fun r89=>(bW ((decide ((0:Int)<=x1))&&(decide (x1<(x2.length:Int)))) (j17 x0 (IntKind.wrap .i64 (x1+1)) (dW x2 x1 (AV.agg [AV.str ((bZ x2 x1).fld 0).s,AV.str r89,AV.str ((bZ x2 x1).fld 2).s])) x3))))) else (κ0 x2))
def e {R:Type} (c1:bj.F R) (c2:bo.F R) (c3:aI.F R) (c4:av.F R) (a0:BA) (j4:J4 R) (j8:J8 R) (j13:Dq R) (j15:my R) (j17:Ds R) (κ0:LA->Option R):Option R :=
 (c1 a0 (fun r88=>(j4 (r88.length:Int) 0 ([]:LA) ([]:LA) r88)))
def Dv {R:Type} (c1:bj.F R) (c2:bo.F R) (c3:aI.F R) (c4:av.F R) (κ0:LA->Option R):Nat->Ds R
 | 0=>fun _ _ _ _=>none
 | f+1=>t17 c2 (Dv c1 c2 c3 c4 κ0 f) κ0
def M4 {R:Type} (c1:bj.F R) (c2:bo.F R) (c3:aI.F R) (c4:av.F R) (κ0:LA->Option R):Nat->(J4 R) × (J8 R) × (Dq R) × (my R)
 | 0=>(fun _ _ _ _ _=>none,fun _ _ _ _ _ _ _ _ _=>none,fun _ _ _ _ _ _ _ _ _ _=>none,fun _ _ _ _ _=>none)
 | f+1=>(t4 ((M4 c1 c2 c3 c4 κ0 f).2.1) ((M4 c1 c2 c3 c4 κ0 f).2.2.2) (Dv c1 c2 c3 c4 κ0 f),
  t8 c3 c4 ((M4 c1 c2 c3 c4 κ0 f).2.2.1),
  t13 ((M4 c1 c2 c3 c4 κ0 f).2.2.2),
  t15 ((M4 c1 c2 c3 c4 κ0 f).1))
def L4 {R:Type} (c1:bj.F R) (c2:bo.F R) (c3:aI.F R) (c4:av.F R) (κ0:LA->Option R) (f:Nat):J4 R:=(M4 c1 c2 c3 c4 κ0 f).1
def L8 {R:Type} (c1:bj.F R) (c2:bo.F R) (c3:aI.F R) (c4:av.F R) (κ0:LA->Option R) (f:Nat):J8 R:=(M4 c1 c2 c3 c4 κ0 f).2.1
def B6 {R:Type} (c1:bj.F R) (c2:bo.F R) (c3:aI.F R) (c4:av.F R) (κ0:LA->Option R) (f:Nat):Dq R:=(M4 c1 c2 c3 c4 κ0 f).2.2.1
def je {R:Type} (c1:bj.F R) (c2:bo.F R) (c3:aI.F R) (c4:av.F R) (κ0:LA->Option R) (f:Nat):my R:=(M4 c1 c2 c3 c4 κ0 f).2.2.2
end aT
def aT {R:Type}:aT.F R:=fun a0 κ0=>aT.e bj bo aI av a0 (aT.L4 bj bo aI av κ0 aH) (aT.L8 bj bo aI av κ0 aH) (aT.B6 bj bo aI av κ0 aH) (aT.je bj bo aI av κ0 aH) (aT.Dv bj bo aI av κ0 aH) κ0
abbrev bn.F (R:Type):Type:=BA->(BA->Option R)->Option R
namespace bn
abbrev J3 (R:Type):Type:=Int->Int->LA->Option R
def t3 {R:Type} (j3:J3 R) (κ0:BA->Option R):J3 R :=
 fun x0 x1 x2=>(bif (decide (x1<x0)) then (bW ((decide ((0:Int)<=x1))&&(decide (x1<(x2.length:Int)))) (bif (decide ((bZ x2 x1).i>=(65:Int))) then (bif (decide ((bZ x2 x1).i<=(90:Int))) then (bW ((decide ((0:Int)<=x1))&&(decide (x1<(x2.length:Int)))) (j3 x0 (IntKind.wrap .i64 (x1+1)) (dW x2 x1 (AV.int (IntKind.wrap .u8 ((IntKind.wrap .u8 ((bZ x2 x1).i+97))-65)))))) else (j3 x0 (IntKind.wrap .i64 (x1+1)) x2)) else (j3 x0 (IntKind.wrap .i64 (x1+1)) x2))) else (κ0 (cY x2)))
def e {R:Type} (a0:BA) (j3:J3 R) (κ0:BA->Option R):Option R :=
 (bW (decide ((a0.size+0)*1<=140737488355328)) (j3 ((dB a0).length:Int) 0 (dB a0)))
def L3 {R:Type} (κ0:BA->Option R):Nat->J3 R
 | 0=>fun _ _ _=>none
 | f+1=>t3 (L3 κ0 f) κ0
end bn
def bn {R:Type}:bn.F R:=fun a0 κ0=>bn.e a0 (bn.L3 κ0 aH) κ0
abbrev cH.F (R:Type):Type:=BA->BA->(Bool->Option R)->Option R
namespace cH
def e {R:Type} (c1:bn.F R) (a0:BA) (a1:BA) (κ0:Bool->Option R):Option R :=
 (c1 a0 (fun r93=>(c1 a1 (fun r94=>(κ0 (decide (r93=r94)))))))
end cH
def cH {R:Type}:cH.F R:=fun a0 a1 κ0=>cH.e bn a0 a1 κ0
abbrev cd.F (R:Type):Type:=LA->BA->(Bool->BA->Option R)->Option R
namespace cd
abbrev J2 (R:Type):Type:=BA->LA->Int->Int->Bool->BA->Option R
def t2 {R:Type} (c1:cH.F R) (j2:J2 R) (κ0:Bool->BA->Option R):J2 R :=
 fun x0 x1 x2 x3 x4 x5=>(bif (decide (x3<x2)) then (bW ((decide ((0:Int)<=x3))&&(decide (x3<(x1.length:Int)))) (c1 ((bZ x1 x3).fld 0).s x0 (fun r95=>(bif r95 then (κ0 true ((bZ x1 x3).fld 1).s) else (j2 x0 x1 x2 (IntKind.wrap .i64 (x3+1)) x4 x5))))) else (κ0 false (⟨#[]⟩:BA)))
def e {R:Type} (c1:cH.F R) (a0:LA) (a1:BA) (j2:J2 R) (κ0:Bool->BA->Option R):Option R :=
 (j2 a1 a0 (a0.length:Int) 0 false (⟨#[]⟩:BA))
def L2 {R:Type} (c1:cH.F R) (κ0:Bool->BA->Option R):Nat->J2 R
 | 0=>fun _ _ _ _ _ _=>none
 | f+1=>t2 c1 (L2 c1 κ0 f) κ0
end cd
def cd {R:Type}:cd.F R:=fun a0 a1 κ0=>cd.e cH a0 a1 (cd.L2 cH κ0 aH) κ0
abbrev bd.Q0 (R:Type):Type:=Int->BA->Int->Option R
abbrev bd.F (R:Type):Type:=BA->Int->bd.Q0 R->Option R
namespace bd
def e {R:Type} (a0:BA) (a1:Int) (κ0:Q0 R):Option R :=
 (bif (decide (a1<(a0.size:Int))) then (bW ((decide ((0:Int)<=a1))&&(decide (a1<(a0.size:Int)))) (κ0 (ed a0 a1) a0 a1)) else (κ0 0 a0 a1))
end bd
def bd {R:Type}:bd.F R:=fun a0 a1 κ0=>bd.e a0 a1 κ0
abbrev aF.F (R:Type):Type:=BA->Int->(BA->Int->Option R)->Option R
namespace aF
abbrev J1 (R:Type):Type:=Int->BA->Int->Option R
def t1 {R:Type} (j1:J1 R) (κ0:BA->Int->Option R):J1 R :=
 fun x0 x1 x2=>(bif (decide (x2<(x1.size:Int))) then (bW ((decide ((0:Int)<=x2))&&(decide (x2<(x1.size:Int)))) (bif ((ed x1 x2) == 92) then (j1 x0 x1 (IntKind.wrap .i64 ((IntKind.wrap .i64 (x2+1))+1))) else (bif ((ed x1 x2) == 40) then (j1 (IntKind.wrap .i64 (x0+1)) x1 (IntKind.wrap .i64 (x2+1))) else (bif ((ed x1 x2) == 41) then (bif ((IntKind.wrap .i64 (x0-1)) == 0) then (κ0 x1 (IntKind.wrap .i64 (x2+1))) else (j1 (IntKind.wrap .i64 (x0-1)) x1 (IntKind.wrap .i64 (x2+1)))) else (j1 x0 x1 (IntKind.wrap .i64 (x2+1))))))) else (κ0 x1 (x1.size:Int)))
def e {R:Type} (a0:BA) (a1:Int) (j1:J1 R) (κ0:BA->Int->Option R):Option R :=
 (j1 0 a0 a1)
def L1 {R:Type} (κ0:BA->Int->Option R):Nat->J1 R
 | 0=>fun _ _ _=>none
 | f+1=>t1 (L1 κ0 f) κ0
end aF
def aF {R:Type}:aF.F R:=fun a0 a1 κ0=>aF.e a0 a1 (aF.L1 κ0 aH) κ0
abbrev ac.F (R:Type):Type:=BA->Int->(BA->Int->Option R)->Option R
namespace ac
def t0 {R:Type} (c1:bd.F R) (c2:aF.F R) (j0:BA->Int->Option R) (κ0:BA->Int->Option R):BA->Int->Option R :=
 fun x0 x1=>(c1 x0 x1 (fun r98 r99 r100=>(bif (r98 == 32) then (j0 r99 (IntKind.wrap .i64 (r100+1))) else (bif (r98 == 9) then (j0 r99 (IntKind.wrap .i64 (r100+1))) else (bif (r98 == 40) then (c2 r99 r100 (fun r101 r102=>(j0 r101 r102))) else (κ0 r99 r100))))))
def e {R:Type} (c1:bd.F R) (c2:aF.F R) (a0:BA) (a1:Int) (j0:BA->Int->Option R) (κ0:BA->Int->Option R):Option R :=
 (j0 a0 a1)
def L0 {R:Type} (c1:bd.F R) (c2:aF.F R) (κ0:BA->Int->Option R):Nat->BA->Int->Option R
 | 0=>fun _ _=>none
 | f+1=>t0 c1 c2 (L0 c1 c2 κ0 f) κ0
end ac
def ac {R:Type}:ac.F R:=fun a0 a1 κ0=>ac.e bd aF a0 a1 (ac.L0 bd aF κ0 aH) κ0
abbrev bA.F (R:Type):Type:=Int->(Bool->Option R)->Option R
namespace bA
def e {R:Type} (a0:Int) (κ0:Bool->Option R):Option R :=
 (bif (decide ((0:Int)<=a0)) then (bif (decide (a0<(55296:Int))) then (κ0 true) else (bif (decide ((57343:Int)<a0)) then (bif (decide (a0<=(1114111:Int))) then (κ0 true) else (κ0 false)) else (κ0 false))) else (bif (decide ((57343:Int)<a0)) then (bif (decide (a0<=(1114111:Int))) then (κ0 true) else (κ0 false)) else (κ0 false)))
end bA
def bA {R:Type}:bA.F R:=fun a0 κ0=>bA.e a0 κ0
abbrev bO.F (R:Type):Type:=Int->(Int->Option R)->Option R
namespace bO
def e {R:Type} (a0:Int) (κ0:Int->Option R):Option R :=
 (κ0 (IntKind.wrap .i64 (Int.tdiv (IntKind.wrap .i64 (a0+16)) 8)))
end bO
def bO {R:Type}:bO.F R:=fun a0 κ0=>bO.e a0 κ0
abbrev bQ.F (R:Type):Type:=BA->Int->(Int->Option R)->Option R
namespace bQ
abbrev J5 (R:Type):Type:=BA->Int->BA->Int->Int->Int->Option R
abbrev B4 (R:Type):Type:=BA->Int->BA->Int->Int->Int->Int->Option R
def t5 {R:Type} (c1:av.F R) (j12:B4 R) (κ0:Int->Option R):J5 R :=
 fun x0 x1 x2 x3 x4 x5=>(bif (decide (x4<(x0.size:Int))) then (bW ((decide ((0:Int)<=x4))&&(decide (x4<(x0.size:Int)))) (bW ((decide ((0:Int)<=x3))&&(decide (x3<(x2.size:Int)))) (bif ((ed x0 x4) != (ed x2 x3)) then (bW ((decide ((0:Int)<=(IntKind.wrap .i64 (x4+1))))&&((decide ((IntKind.wrap .i64 (x4+1))<=(x0.size:Int)))&&(decide ((x0.size:Int)<=(x0.size:Int))))) (bW ((decide ((0:Int)<=x3))&&(decide (x3<(x2.size:Int)))) (c1 (x0.extract ((IntKind.wrap .i64 (x4+1))).toNat ((x0.size:Int)).toNat) (ed x2 x3) (fun r108=>(bif (decide (r108<(0:Int))) then (κ0 (-1)) else (j12 x0 x1 x2 x3 (IntKind.wrap .i64 (x4+(IntKind.wrap .i64 (r108+1)))) x5 1)))))) else (j12 x0 x1 x2 x3 x4 x5 1)))) else (κ0 (-1)))
def t12 {R:Type} (c3:bO.F R) (j5:J5 R) (j12:B4 R) (κ0:Int->Option R):B4 R :=
 fun x0 x1 x2 x3 x4 x5 x6=>(bif (decide (x6<(x2.size:Int))) then (bW ((decide ((0:Int)<=(IntKind.wrap .i64 (x4-x6))))&&(decide ((IntKind.wrap .i64 (x4-x6))<(x0.size:Int)))) (bW ((decide ((0:Int)<=(IntKind.wrap .i64 (x3-x6))))&&(decide ((IntKind.wrap .i64 (x3-x6))<(x2.size:Int)))) (bif ((ed x0 (IntKind.wrap .i64 (x4-x6))) != (ed x2 (IntKind.wrap .i64 (x3-x6)))) then (c3 (IntKind.wrap .i64 (x4+1)) (fun r109=>(bif (decide ((IntKind.wrap .i64 (x5+1))>r109)) then (bif (decide ((IntKind.wrap .i64 (x4+1))<(x0.size:Int))) then (bW ((decide ((0:Int)<=(IntKind.wrap .i64 ((IntKind.wrap .i64 (x4+1))-x3))))&&((decide ((IntKind.wrap .i64 ((IntKind.wrap .i64 (x4+1))-x3))<=(x0.size:Int)))&&(decide ((x0.size:Int)<=(x0.size:Int))))) none) else (j5 x0 x1 x2 x3 (IntKind.wrap .i64 (x4+1)) (IntKind.wrap .i64 (x5+1)))) else (j5 x0 x1 x2 x3 (IntKind.wrap .i64 (x4+1)) (IntKind.wrap .i64 (x5+1)))))) else (j12 x0 x1 x2 x3 x4 x5 (IntKind.wrap .i64 (x6+1)))))) else (κ0 (IntKind.wrap .i64 (x4-x3))))
def t38 {R:Type} (j38:BA->Nat->Option R) (κ0:Int->Option R):BA->Nat->Option R :=
 fun x0 x1=>(bif (decide (x1<x0.size)) then (bif (((Utf8.decode x0 x1).1:Int) == 65533) then (κ0 (x1:Int)) else (j38 x0 (x1+(Utf8.decode x0 x1).2))) else (κ0 (-1)))
def e {R:Type} (c1:av.F R) (c2:bA.F R) (c3:bO.F R) (a0:BA) (a1:Int) (j5:J5 R) (j12:B4 R) (j38:BA->Nat->Option R) (κ0:Int->Option R):Option R :=
 (bif (decide ((0:Int)<=a1)) then (bif (decide (a1<(128:Int))) then (c1 a0 (IntKind.wrap .u8 a1) (fun r105=>(κ0 r105))) else (bif (a1 == 65533) then (j38 a0 0) else (c2 a1 (fun r106=>(bif (!r106) then (κ0 (-1)) else (j5 a0 a1 (Utf8.encode a1) (IntKind.wrap .i64 (((Utf8.encode a1).size:Int)-1)) (IntKind.wrap .i64 (((Utf8.encode a1).size:Int)-1)) 0)))))) else (bif (a1 == 65533) then (j38 a0 0) else (c2 a1 (fun r107=>(bif (!r107) then (κ0 (-1)) else (j5 a0 a1 (Utf8.encode a1) (IntKind.wrap .i64 (((Utf8.encode a1).size:Int)-1)) (IntKind.wrap .i64 (((Utf8.encode a1).size:Int)-1)) 0))))))
def M5 {R:Type} (c1:av.F R) (c2:bA.F R) (c3:bO.F R) (κ0:Int->Option R):Nat->(J5 R) × (B4 R)
 | 0=>(fun _ _ _ _ _ _=>none,fun _ _ _ _ _ _ _=>none)
 | f+1=>(t5 c1 ((M5 c1 c2 c3 κ0 f).2) κ0,
  t12 c3 ((M5 c1 c2 c3 κ0 f).1) ((M5 c1 c2 c3 κ0 f).2) κ0)
def L5 {R:Type} (c1:av.F R) (c2:bA.F R) (c3:bO.F R) (κ0:Int->Option R) (f:Nat):J5 R:=(M5 c1 c2 c3 κ0 f).1
def EP {R:Type} (c1:av.F R) (c2:bA.F R) (c3:bO.F R) (κ0:Int->Option R) (f:Nat):B4 R:=(M5 c1 c2 c3 κ0 f).2
def EQ {R:Type} (c1:av.F R) (c2:bA.F R) (c3:bO.F R) (κ0:Int->Option R):Nat->BA->Nat->Option R
 | 0=>fun _ _=>none
 | f+1=>t38 (EQ c1 c2 c3 κ0 f) κ0
end bQ
def bQ {R:Type}:bQ.F R:=fun a0 a1 κ0=>bQ.e av bA bO a0 a1 (bQ.L5 av bA bO κ0 aH) (bQ.EP av bA bO κ0 aH) (bQ.EQ av bA bO κ0 aH) κ0
abbrev aZ.F (R:Type):Type:=BA->Int->(Bool->Option R)->Option R
namespace aZ
def e {R:Type} (c1:bQ.F R) (a0:BA) (a1:Int) (κ0:Bool->Option R):Option R :=
 (c1 a0 a1 (fun r110=>(κ0 (decide (r110>=(0:Int))))))
end aZ
def aZ {R:Type}:aZ.F R:=fun a0 a1 κ0=>aZ.e bQ a0 a1 κ0
abbrev ak.Q0 (R:Type):Type:=BA->BA->Int->Option R
abbrev ak.F (R:Type):Type:=BA->Int->ak.Q0 R->Option R
namespace ak
abbrev J2 (R:Type):Type:=Int->BA->Int->Option R
def t2 {R:Type} (c1:aZ.F R) (j2:J2 R) (κ0:Q0 R):J2 R :=
 fun x0 x1 x2=>(bif (decide (x2<(x1.size:Int))) then (bW ((decide ((0:Int)<=x2))&&(decide (x2<(x1.size:Int)))) (bif (decide ((ed x1 x2)>(32:Int))) then (bW ((decide ((0:Int)<=x2))&&(decide (x2<(x1.size:Int)))) (bif (decide ((ed x1 x2)<(127:Int))) then (bW ((decide ((0:Int)<=x2))&&(decide (x2<(x1.size:Int)))) (c1 (⟨#[40,41,60,62,64,44,59,58,92,34,47,91,93,63,61]⟩:BA) (IntKind.wrap .i32 (ed x1 x2)) (fun r111=>(bif (!r111) then (j2 x0 x1 (IntKind.wrap .i64 (x2+1))) else (bW ((decide ((0:Int)<=x0))&&((decide (x0<=x2))&&(decide (x2<=(x1.size:Int))))) (κ0 (x1.extract (x0).toNat (x2).toNat) x1 x2)))))) else (bW ((decide ((0:Int)<=x0))&&((decide (x0<=x2))&&(decide (x2<=(x1.size:Int))))) (κ0 (x1.extract (x0).toNat (x2).toNat) x1 x2)))) else (bW ((decide ((0:Int)<=x0))&&((decide (x0<=x2))&&(decide (x2<=(x1.size:Int))))) (κ0 (x1.extract (x0).toNat (x2).toNat) x1 x2)))) else (bW ((decide ((0:Int)<=x0))&&((decide (x0<=x2))&&(decide (x2<=(x1.size:Int))))) (κ0 (x1.extract (x0).toNat (x2).toNat) x1 x2)))
def e {R:Type} (c1:aZ.F R) (a0:BA) (a1:Int) (j2:J2 R) (κ0:Q0 R):Option R :=
 (j2 a1 a0 a1)
def L2 {R:Type} (c1:aZ.F R) (κ0:Q0 R):Nat->J2 R
 | 0=>fun _ _ _=>none
 | f+1=>t2 c1 (L2 c1 κ0 f) κ0
end ak
def ak {R:Type}:ak.F R:=fun a0 a1 κ0=>ak.e aZ a0 a1 (ak.L2 aZ κ0 aH) κ0
abbrev ag.Q0 (R:Type):Type:=Bool->BA->Int->Option R
abbrev ag.F (R:Type):Type:=BA->Int->Int->ag.Q0 R->Option R
namespace ag
def e {R:Type} (a0:BA) (a1:Int) (a2:Int) (κ0:Q0 R):Option R :=
 (bif (decide (a1<(a0.size:Int))) then (bW ((decide ((0:Int)<=a1))&&(decide (a1<(a0.size:Int)))) (bif ((ed a0 a1) == a2) then (κ0 true a0 (IntKind.wrap .i64 (a1+1))) else (κ0 false a0 a1))) else (κ0 false a0 a1))
end ag
def ag {R:Type}:ag.F R:=fun a0 a1 a2 κ0=>ag.e a0 a1 a2 κ0
abbrev aW.Q0 (R:Type):Type:=BA->BA->Bool->BA->Int->Option R
abbrev aW.F (R:Type):Type:=BA->Int->aW.Q0 R->Option R
namespace aW
def e {R:Type} (c1:ac.F R) (c2:ak.F R) (c3:bn.F R) (c4:ag.F R) (a0:BA) (a1:Int) (κ0:Q0 R):Option R :=
 (c1 a0 a1 (fun r103 r104=>(c2 r103 r104 (fun r112 r113 r114=>(c3 r112 (fun r115=>(c1 r113 r114 (fun r116 r117=>(bif (decide (r115=(⟨#[]⟩:BA))) then (κ0 (⟨#[]⟩:BA) (⟨#[]⟩:BA) false r116 r117) else (c4 r116 r117 47 (fun r118 r119 r120=>(bif (!r118) then (κ0 (⟨#[]⟩:BA) (⟨#[]⟩:BA) false r119 r120) else (c1 r119 r120 (fun r121 r122=>(c2 r121 r122 (fun r123 r124 r125=>(c3 r123 (fun r126=>(κ0 r115 r126 (!decide (r126=(⟨#[]⟩:BA))) r124 r125)))))))))))))))))))
end aW
def aW {R:Type}:aW.F R:=fun a0 a1 κ0=>aW.e ac ak bn ag a0 a1 κ0
abbrev aq.F (R:Type):Type:=LA->(BA->Option R)->Option R
namespace aq
def e {R:Type} (a0:LA) (κ0:BA->Option R):Option R :=
 (bW (decide ((a0.length:Int)=(a0.length:Int))) (bW (List.all a0 m7) (κ0 (cY a0))))
end aq
def aq {R:Type}:aq.F R:=fun a0 κ0=>aq.e a0 κ0
abbrev bi.F (R:Type):Type:=LA->(LA->Option R)->Option R
def bi {R:Type} (a0:LA) (κ0:LA->Option R):Option R:=κ0 a0
abbrev aJ.F (R:Type):Type:=LA->Int->(LA->Option R)->Option R
namespace aJ
def e {R:Type} (c1:bi.F R) (a0:LA) (a1:Int) (κ0:LA->Option R):Option R :=
 (c1 a0 (fun r165=>(bW (decide ((r165.length+1)*1<=140737488355328)) (κ0 (r165++[AV.int a1])))))
end aJ
def aJ {R:Type}:aJ.F R:=fun a0 a1 κ0=>aJ.e bi a0 a1 κ0
abbrev bf.Q0 (R:Type):Type:=BA->Bool->BA->Int->Option R
abbrev bf.F (R:Type):Type:=BA->Int->bf.Q0 R->Option R
namespace bf
abbrev J5 (R:Type):Type:=BA->Int->LA->Option R
def t5 {R:Type} (c3:aq.F R) (c4:aJ.F R) (j5:J5 R) (κ0:Q0 R):J5 R :=
 fun x0 x1 x2=>(bif (decide (x1<(x0.size:Int))) then (bW ((decide ((0:Int)<=x1))&&(decide (x1<(x0.size:Int)))) (bif ((ed x0 x1) == 34) then (c3 x2 (fun r164=>(κ0 r164 true x0 (IntKind.wrap .i64 (x1+1))))) else (bif ((ed x0 x1) == 92) then (bif (decide ((IntKind.wrap .i64 (x1+1))<(x0.size:Int))) then (bW ((decide ((0:Int)<=(IntKind.wrap .i64 (x1+1))))&&(decide ((IntKind.wrap .i64 (x1+1))<(x0.size:Int)))) (c4 x2 (ed x0 (IntKind.wrap .i64 (x1+1))) (fun r166=>(j5 x0 (IntKind.wrap .i64 ((IntKind.wrap .i64 (x1+1))+1)) r166)))) else (c4 x2 (ed x0 x1) (fun r167=>(j5 x0 (IntKind.wrap .i64 (x1+1)) r167)))) else (c4 x2 (ed x0 x1) (fun r168=>(j5 x0 (IntKind.wrap .i64 (x1+1)) r168)))))) else (κ0 (⟨#[]⟩:BA) false x0 x1))
def e {R:Type} (c1:ag.F R) (c2:ak.F R) (c3:aq.F R) (c4:aJ.F R) (a0:BA) (a1:Int) (j5:J5 R) (κ0:Q0 R):Option R :=
 (c1 a0 a1 34 (fun r158 r159 r160=>(bif (!r158) then (c2 r159 r160 (fun r161 r162 r163=>(κ0 r161 (!decide (r161=(⟨#[]⟩:BA))) r162 r163))) else (j5 r159 r160 ([]:LA)))))
def L5 {R:Type} (c1:ag.F R) (c2:ak.F R) (c3:aq.F R) (c4:aJ.F R) (κ0:Q0 R):Nat->J5 R
 | 0=>fun _ _ _=>none
 | f+1=>t5 c3 c4 (L5 c1 c2 c3 c4 κ0 f) κ0
end bf
def bf {R:Type}:bf.F R:=fun a0 a1 κ0=>bf.e ag ak aq aJ a0 a1 (bf.L5 ag ak aq aJ κ0 aH) κ0
abbrev aQ.Q0 (R:Type):Type:=BA->BA->Bool->BA->Int->Option R
abbrev aQ.F (R:Type):Type:=BA->Int->aQ.Q0 R->Option R
namespace aQ
def e {R:Type} (c1:ac.F R) (c2:ag.F R) (c3:ak.F R) (c4:bn.F R) (c5:bf.F R) (a0:BA) (a1:Int) (κ0:Q0 R):Option R :=
 (c1 a0 a1 (fun r132 r133=>(c2 r132 r133 59 (fun r134 r135 r136=>(bif (!r134) then (κ0 (⟨#[]⟩:BA) (⟨#[]⟩:BA) false r135 r136) else (c1 r135 r136 (fun r137 r138=>(c3 r137 r138 (fun r139 r140 r141=>(c4 r139 (fun r142=>(c1 r140 r141 (fun r143 r144=>(bif (decide (r142=(⟨#[]⟩:BA))) then (κ0 (⟨#[]⟩:BA) (⟨#[]⟩:BA) false r143 r144) else (c2 r143 r144 61 (fun r145 r146 r147=>(bif (!r145) then (κ0 (⟨#[]⟩:BA) (⟨#[]⟩:BA) false r146 r147) else (c1 r146 r147 (fun r148 r149=>(c5 r148 r149 (fun r169 r170 r171 r172=>(κ0 r142 r169 r170 r171 r172))))))))))))))))))))))
end aQ
def aQ {R:Type}:aQ.F R:=fun a0 a1 κ0=>aQ.e ac ag ak bn bf a0 a1 κ0
abbrev aD.Q0 (R:Type):Type:=LA->BA->Int->Option R
abbrev aD.F (R:Type):Type:=BA->Int->aD.Q0 R->Option R
namespace aD
abbrev J3 (R:Type):Type:=BA->Int->LA->LA->Option R
def t3 {R:Type} (c1:aQ.F R) (j3:J3 R) (κ0:Q0 R):J3 R :=
 fun x0 x1 x2 x3=>(bif (decide ((x2.length:Int)<(12:Int))) then (c1 x0 x1 (fun r178 r179 r180 r181 r182=>(bif (!r180) then (κ0 x2 r181 r182) else (bif ((f' (.str) (AV.str r178) (fc (.str) (AV.str r178) (AV.int (IntKind.wrap .i64 ((f' (.str) (AV.str r178) x3).i+1))) x3)).i == 1) then (bW (decide ((x2.length+1)*32<=140737488355328)) (j3 r181 r182 (x2++[AV.agg [AV.str r178,AV.str r179]]) (fc (.str) (AV.str r178) (AV.int (IntKind.wrap .i64 ((f' (.str) (AV.str r178) x3).i+1))) x3))) else (j3 r181 r182 x2 (fc (.str) (AV.str r178) (AV.int (IntKind.wrap .i64 ((f' (.str) (AV.str r178) x3).i+1))) x3)))))) else (κ0 x2 x0 x1))
def e {R:Type} (c1:aQ.F R) (a0:BA) (a1:Int) (j3:J3 R) (κ0:Q0 R):Option R :=
 (j3 a0 a1 ([]:LA) ([]:LA))
def L3 {R:Type} (c1:aQ.F R) (κ0:Q0 R):Nat->J3 R
 | 0=>fun _ _ _ _=>none
 | f+1=>t3 c1 (L3 c1 κ0 f) κ0
end aD
def aD {R:Type}:aD.F R:=fun a0 a1 κ0=>aD.e aQ a0 a1 (aD.L3 aQ κ0 aH) κ0
abbrev an.Q0 (R:Type):Type:=Bool->BA->BA->Int->Option R
abbrev an.F (R:Type):Type:=BA->Int->an.Q0 R->Option R
namespace an
def e {R:Type} (c1:ac.F R) (c2:ak.F R) (c3:bn.F R) (a0:BA) (a1:Int) (κ0:Q0 R):Option R :=
 (c1 a0 a1 (fun r188 r189=>(c2 r188 r189 (fun r190 r191 r192=>(c3 r190 (fun r193=>(κ0 (!decide (r193=(⟨#[]⟩:BA))) r193 r191 r192)))))))
end an
def an {R:Type}:an.F R:=fun a0 a1 κ0=>an.e ac ak bn a0 a1 κ0
abbrev cn.F (R:Type):Type:=LA->BA->(Bool->BA->Option R)->Option R
namespace cn
def e {R:Type} (c1:cd.F R) (c2:bo.F R) (a0:LA) (a1:BA) (κ0:Bool->BA->Option R):Option R :=
 (c1 a0 a1 (fun r198 r199=>(c2 r199 (⟨#[32,9]⟩:BA) (fun r200=>(κ0 r198 r200)))))
end cn
def cn {R:Type}:cn.F R:=fun a0 a1 κ0=>cn.e cd bo a0 a1 κ0
abbrev aB.Q0 (R:Type):Type:=LA->BA->Int->Option R
abbrev aB.F (R:Type):Type:=BA->Int->aB.Q0 R->Option R
namespace aB
abbrev J2 (R:Type):Type:=BA->Int->LA->Option R
abbrev J8 (R:Type):Type:=LA->BA->Int->Option R
def t2 {R:Type} (c1:an.F R) (c2:ac.F R) (c3:ag.F R) (j2:J2 R) (j8:J8 R):J2 R :=
 fun x0 x1 x2=>(bif (decide ((x2.length:Int)<(12:Int))) then (c1 x0 x1 (fun r278 r279 r280 r281=>(bif (!r278) then (j8 x2 r280 r281) else (bW (decide ((x2.length+1)*16<=140737488355328)) (c2 r280 r281 (fun r282 r283=>(c3 r282 r283 44 (fun r284 r285 r286=>(bif (!r284) then (j8 (x2++[AV.str r279]) r285 r286) else (j2 r285 r286 (x2++[AV.str r279]))))))))))) else (j8 x2 x0 x1))
def t8 {R:Type} (κ0:Q0 R):J8 R :=
 fun x0 x1 x2=>(κ0 x0 x1 x2)
def e {R:Type} (c1:an.F R) (c2:ac.F R) (c3:ag.F R) (a0:BA) (a1:Int) (j2:J2 R) (j8:J8 R) (κ0:Q0 R):Option R :=
 (j2 a0 a1 ([]:LA))
def L8 {R:Type} (c1:an.F R) (c2:ac.F R) (c3:ag.F R) (κ0:Q0 R):Nat->J8 R
 | 0=>fun _ _ _=>none
 | f+1=>t8 κ0
def L2 {R:Type} (c1:an.F R) (c2:ac.F R) (c3:ag.F R) (κ0:Q0 R):Nat->J2 R
 | 0=>fun _ _ _=>none
 | f+1=>t2 c1 c2 c3 (L2 c1 c2 c3 κ0 f) (L8 c1 c2 c3 κ0 f)
end aB
def aB {R:Type}:aB.F R:=fun a0 a1 κ0=>aB.e an ac ag a0 a1 (aB.L2 an ac ag κ0 aH) (aB.L8 an ac ag κ0 aH) κ0
abbrev cw.Q0 (R:Type):Type:=BA->BA->BA->LA->Bool->BA->Bool->BA->Bool->BA->Bool->BA->LA->LA->Bool->BA->Int->Int->Int->Int->Int->Option R
abbrev cw.F (R:Type):Type:=BA->BA->BA->Bool->BA->Bool->BA->Bool->BA->Bool->BA->Bool->BA->Int->Int->Int->Int->Int->LA->Bool->cw.Q0 R->Option R
namespace cw
abbrev my (R:Type):Type:=LA->BA->BA->BA->LA->Bool->BA->Bool->BA->Bool->BA->Bool->BA->LA->LA->Bool->BA->Int->Int->Int->Int->Int->Option R
def t15 {R:Type} (c1:cd.F R) (c6:aB.F R) (κ0:Q0 R):my R :=
 fun x0 x1 x2 x3 x4 x5 x6 x7 x8 x9 x10 x11 x12 x13 x14 x15 x16 x17 x18 x19 x20 x21=>(c1 x0 (⟨#[67,111,110,116,101,110,116,45,76,97,110,103,117,97,103,101]⟩:BA) (fun r258 r259=>(c6 r259 0 (fun r287 r288 r289=>(κ0 x1 x2 x3 x4 x5 x6 x7 x8 x9 x10 x11 x12 x13 r287 x15 x16 x17 x18 x19 x20 x21)))))
def e {R:Type} (c1:cd.F R) (c2:aW.F R) (c3:aD.F R) (c4:an.F R) (c5:cn.F R) (c6:aB.F R) (a0:BA) (a1:BA) (a2:BA) (a3:Bool) (a4:BA) (a5:Bool) (a6:BA) (a7:Bool) (a8:BA) (a9:Bool) (a10:BA) (a11:Bool) (a12:BA) (a13:Int) (a14:Int) (a15:Int) (a16:Int) (a17:Int) (a18:LA) (a19:Bool) (j15:my R) (κ0:Q0 R):Option R :=
 (c1 a18 (⟨#[67,111,110,116,101,110,116,45,84,121,112,101]⟩:BA) (fun r96 r97=>(c2 r97 0 (fun r127 r128 r129 r130 r131=>(bif r129 then (c3 r130 r131 (fun r183 r184 r185=>(c1 a18 (⟨#[67,111,110,116,101,110,116,45,84,114,97,110,115,102,101,114,45,69,110,99,111,100,105,110,103]⟩:BA) (fun r186 r187=>(c4 r187 0 (fun r194 r195 r196 r197=>(c5 a18 (⟨#[67,111,110,116,101,110,116,45,73,100]⟩:BA) (fun r201 r202=>(c5 a18 (⟨#[67,111,110,116,101,110,116,45,68,101,115,99,114,105,112,116,105,111,110]⟩:BA) (fun r203 r204=>(c5 a18 (⟨#[67,111,110,116,101,110,116,45,76,111,99,97,116,105,111,110]⟩:BA) (fun r205 r206=>(c1 a18 (⟨#[67,111,110,116,101,110,116,45,68,105,115,112,111,115,105,116,105,111,110]⟩:BA) (fun r207 r208=>(c4 r208 0 (fun r209 r210 r211 r212=>(bif r209 then (c3 r211 r212 (fun r213 r214 r215=>(j15 a18 a0 r127 r128 r183 r201 r202 r203 r204 r194 r195 r209 r210 r213 ([]:LA) r205 r206 a13 a14 a15 a16 a17))) else (j15 a18 a0 r127 r128 r183 r201 r202 r203 r204 r194 r195 r209 r210 ([]:LA) ([]:LA) r205 r206 a13 a14 a15 a16 a17)))))))))))))))))) else (bif a19 then (c1 a18 (⟨#[67,111,110,116,101,110,116,45,84,114,97,110,115,102,101,114,45,69,110,99,111,100,105,110,103]⟩:BA) (fun r216 r217=>(c4 r217 0 (fun r218 r219 r220 r221=>(c5 a18 (⟨#[67,111,110,116,101,110,116,45,73,100]⟩:BA) (fun r222 r223=>(c5 a18 (⟨#[67,111,110,116,101,110,116,45,68,101,115,99,114,105,112,116,105,111,110]⟩:BA) (fun r224 r225=>(c5 a18 (⟨#[67,111,110,116,101,110,116,45,76,111,99,97,116,105,111,110]⟩:BA) (fun r226 r227=>(c1 a18 (⟨#[67,111,110,116,101,110,116,45,68,105,115,112,111,115,105,116,105,111,110]⟩:BA) (fun r228 r229=>(c4 r229 0 (fun r230 r231 r232 r233=>(bif r230 then (c3 r232 r233 (fun r234 r235 r236=>(j15 a18 a0 (⟨#[109,101,115,115,97,103,101]⟩:BA) (⟨#[114,102,99,56,50,50]⟩:BA) ([]:LA) r222 r223 r224 r225 r218 r219 r230 r231 r234 ([]:LA) r226 r227 a13 a14 a15 a16 a17))) else (j15 a18 a0 (⟨#[109,101,115,115,97,103,101]⟩:BA) (⟨#[114,102,99,56,50,50]⟩:BA) ([]:LA) r222 r223 r224 r225 r218 r219 r230 r231 ([]:LA) ([]:LA) r226 r227 a13 a14 a15 a16 a17)))))))))))))))) else (c1 a18 (⟨#[67,111,110,116,101,110,116,45,84,114,97,110,115,102,101,114,45,69,110,99,111,100,105,110,103]⟩:BA) (fun r237 r238=>(c4 r238 0 (fun r239 r240 r241 r242=>(c5 a18 (⟨#[67,111,110,116,101,110,116,45,73,100]⟩:BA) (fun r243 r244=>(c5 a18 (⟨#[67,111,110,116,101,110,116,45,68,101,115,99,114,105,112,116,105,111,110]⟩:BA) (fun r245 r246=>(c5 a18 (⟨#[67,111,110,116,101,110,116,45,76,111,99,97,116,105,111,110]⟩:BA) (fun r247 r248=>(c1 a18 (⟨#[67,111,110,116,101,110,116,45,68,105,115,112,111,115,105,116,105,111,110]⟩:BA) (fun r249 r250=>(c4 r250 0 (fun r251 r252 r253 r254=>(bif r251 then (c3 r253 r254 (fun r255 r256 r257=>(j15 a18 a0 (⟨#[116,101,120,116]⟩:BA) (⟨#[112,108,97,105,110]⟩:BA) [AV.agg [AV.str (⟨#[99,104,97,114,115,101,116]⟩:BA),AV.str (⟨#[117,115,45,97,115,99,105,105]⟩:BA)]] r243 r244 r245 r246 r239 r240 r251 r252 r255 ([]:LA) r247 r248 a13 a14 a15 a16 a17))) else (j15 a18 a0 (⟨#[116,101,120,116]⟩:BA) (⟨#[112,108,97,105,110]⟩:BA) [AV.agg [AV.str (⟨#[99,104,97,114,115,101,116]⟩:BA),AV.str (⟨#[117,115,45,97,115,99,105,105]⟩:BA)]] r243 r244 r245 r246 r239 r240 r251 r252 ([]:LA) ([]:LA) r247 r248 a13 a14 a15 a16 a17))))))))))))))))))))))
def je {R:Type} (c1:cd.F R) (c2:aW.F R) (c3:aD.F R) (c4:an.F R) (c5:cn.F R) (c6:aB.F R) (κ0:Q0 R):Nat->my R
 | 0=>fun _ _ _ _ _ _ _ _ _ _ _ _ _ _ _ _ _ _ _ _ _ _=>none
 | f+1=>t15 c1 c6 κ0
end cw
def cw {R:Type}:cw.F R:=fun a0 a1 a2 a3 a4 a5 a6 a7 a8 a9 a10 a11 a12 a13 a14 a15 a16 a17 a18 a19 κ0=>cw.e cd aW aD an cn aB a0 a1 a2 a3 a4 a5 a6 a7 a8 a9 a10 a11 a12 a13 a14 a15 a16 a17 a18 a19 (cw.je cd aW aD an cn aB κ0 aH) κ0
abbrev az.Q0 (R:Type):Type:=BA->BA->BA->LA->Bool->BA->Bool->BA->Bool->BA->Bool->BA->LA->LA->Bool->BA->Int->Int->Int->Int->Int->BA->Int->Option R
abbrev az.F (R:Type):Type:=BA->Int->Int->Int->Bool->az.Q0 R->Option R
namespace az
def e {R:Type} (c1:cJ.F R) (c2:aT.F R) (c3:cw.F R) (a0:BA) (a1:Int) (a2:Int) (a3:Int) (a4:Bool) (κ0:Q0 R):Option R :=
 (bW ((decide ((0:Int)<=a2))&&((decide (a2<=a3))&&(decide (a3<=(a0.size:Int))))) (c1 (a0.extract (a2).toNat (a3).toNat) (fun r6 r7=>(c2 r6 (fun r92=>(c3 (⟨#[]⟩:BA) (⟨#[]⟩:BA) (⟨#[]⟩:BA) false (⟨#[]⟩:BA) false (⟨#[]⟩:BA) false (⟨#[]⟩:BA) false (⟨#[]⟩:BA) false (⟨#[]⟩:BA) a2 (IntKind.wrap .i64 (a2+(r6.size:Int))) (IntKind.wrap .i64 (a2+(r6.size:Int))) a3 0 r92 a4 (fun r290 r291 r292 r293 r294 r295 r296 r297 r298 r299 r300 r301 r302 r303 r304 r305 r306 r307 r308 r309 r310=>(κ0 r290 r291 r292 r293 r294 r295 r296 r297 r298 r299 r300 r301 r302 r303 r304 r305 r306 r307 r308 r309 r310 a0 a1))))))))
end az
def az {R:Type}:az.F R:=fun a0 a1 a2 a3 a4 κ0=>az.e cJ aT cw a0 a1 a2 a3 a4 κ0
abbrev br.Q0 (R:Type):Type:=Bool->BA->BA->BA->LA->Bool->BA->Bool->BA->Bool->BA->Bool->BA->LA->LA->Bool->BA->Int->Int->Int->Int->Int->Option R
abbrev br.F (R:Type):Type:=BA->BA->BA->LA->Bool->BA->Bool->BA->Bool->BA->Bool->BA->LA->LA->Bool->BA->Int->Int->Int->Int->Int->br.Q0 R->Option R
namespace br
def e {R:Type} (a0:BA) (a1:BA) (a2:BA) (a3:LA) (a4:Bool) (a5:BA) (a6:Bool) (a7:BA) (a8:Bool) (a9:BA) (a10:Bool) (a11:BA) (a12:LA) (a13:LA) (a14:Bool) (a15:BA) (a16:Int) (a17:Int) (a18:Int) (a19:Int) (a20:Int) (κ0:Q0 R):Option R :=
 (bif (decide (a1=(⟨#[109,101,115,115,97,103,101]⟩:BA))) then (κ0 (decide (a2=(⟨#[114,102,99,56,50,50]⟩:BA))) a0 a1 a2 a3 a4 a5 a6 a7 a8 a9 a10 a11 a12 a13 a14 a15 a16 a17 a18 a19 a20) else (κ0 false a0 a1 a2 a3 a4 a5 a6 a7 a8 a9 a10 a11 a12 a13 a14 a15 a16 a17 a18 a19 a20))
end br
def br {R:Type}:br.F R:=fun a0 a1 a2 a3 a4 a5 a6 a7 a8 a9 a10 a11 a12 a13 a14 a15 a16 a17 a18 a19 a20 κ0=>br.e a0 a1 a2 a3 a4 a5 a6 a7 a8 a9 a10 a11 a12 a13 a14 a15 a16 a17 a18 a19 a20 κ0
abbrev b6.F (R:Type):Type:=BA->BA->(BA->Bool->Option R)->Option R
namespace b6
def e {R:Type} (c1:bw.F R) (a0:BA) (a1:BA) (κ0:BA->Bool->Option R):Option R :=
 (c1 a0 a1 (fun r357=>(bif (!r357) then (κ0 a0 false) else (bW ((decide ((0:Int)<=(a1.size:Int)))&&((decide ((a1.size:Int)<=(a0.size:Int)))&&(decide ((a0.size:Int)<=(a0.size:Int))))) (κ0 (a0.extract ((a1.size:Int)).toNat ((a0.size:Int)).toNat) true)))))
end b6
def b6 {R:Type}:b6.F R:=fun a0 a1 κ0=>b6.e bw a0 a1 κ0
abbrev bY.F (R:Type):Type:=BA->BA->(BA->Bool->Option R)->Option R
namespace bY
def e {R:Type} (c1:b6.F R) (a0:BA) (a1:BA) (κ0:BA->Bool->Option R):Option R :=
 (c1 a0 a1 (fun r358 r359=>(κ0 r358 r359)))
end bY
def bY {R:Type}:bY.F R:=fun a0 a1 κ0=>bY.e b6 a0 a1 κ0
abbrev b7.F (R:Type):Type:=BA->BA->(Bool->Bool->Option R)->Option R
namespace b7
def e {R:Type} (c1:bY.F R) (c2:bo.F R) (a0:BA) (a1:BA) (κ0:Bool->Bool->Option R):Option R :=
 (bW (decide ((⟨#[45,45]⟩:BA).size+a1.size<=9223372036854775807)) (c1 a0 ((⟨#[45,45]⟩:BA)++a1) (fun r360 r361=>(bif (!r361) then (κ0 false false) else (c1 r360 (⟨#[45,45]⟩:BA) (fun r362 r363=>(c2 r362 (⟨#[32,9]⟩:BA) (fun r364=>(κ0 (decide (r364=(⟨#[]⟩:BA))) r363)))))))))
end b7
def b7 {R:Type}:b7.F R:=fun a0 a1 κ0=>b7.e bY bo a0 a1 κ0
abbrev bc.Q0 (R:Type):Type:=LA->BA->Int->Option R
abbrev bc.F (R:Type):Type:=BA->Int->Int->Int->BA->bc.Q0 R->Option R
namespace bc
abbrev J4 (R:Type):Type:=BA->Int->Int->BA->Int->Int->Int->LA->Option R
def t4 {R:Type} (c1:aE.F R) (c2:b7.F R) (j4:J4 R) (κ0:Q0 R):J4 R :=
 fun x0 x1 x2 x3 x4 x5 x6 x7=>(bif (decide (x2<=x6)) then (bW ((decide ((0:Int)<=x2))&&((decide (x2<=x6))&&(decide (x6<=(x3.size:Int))))) (c1 (x3.extract (x2).toNat (x6).toNat) (⟨#[13,10]⟩:BA) (fun r367=>(bif (decide (r367>=(0:Int))) then (bW ((decide ((0:Int)<=x2))&&((decide (x2<=(IntKind.wrap .i64 (x2+r367))))&&(decide ((IntKind.wrap .i64 (x2+r367))<=(x3.size:Int))))) (c2 (x3.extract (x2).toNat ((IntKind.wrap .i64 (x2+r367))).toNat) x0 (fun r368 r369=>(bif r368 then (bif (decide (x1>=(0:Int))) then (bW (decide ((x7.length+1)*16<=140737488355328)) (bif r369 then (κ0 (x7++[AV.agg [AV.int x1,AV.int (max2 x1 (IntKind.wrap .i64 (x2-2)))]]) x3 x4) else (j4 x0 (min2 (IntKind.wrap .i64 ((IntKind.wrap .i64 (x2+r367))+2)) x6) (IntKind.wrap .i64 ((IntKind.wrap .i64 (x2+r367))+2)) x3 x4 x5 x6 (x7++[AV.agg [AV.int x1,AV.int (max2 x1 (IntKind.wrap .i64 (x2-2)))]])))) else (bif r369 then (κ0 x7 x3 x4) else (j4 x0 (min2 (IntKind.wrap .i64 ((IntKind.wrap .i64 (x2+r367))+2)) x6) (IntKind.wrap .i64 ((IntKind.wrap .i64 (x2+r367))+2)) x3 x4 x5 x6 x7))) else (j4 x0 x1 (IntKind.wrap .i64 ((IntKind.wrap .i64 (x2+r367))+2)) x3 x4 x5 x6 x7))))) else (bW ((decide ((0:Int)<=x2))&&((decide (x2<=x6))&&(decide (x6<=(x3.size:Int))))) (c2 (x3.extract (x2).toNat (x6).toNat) x0 (fun r370 r371=>(bif r370 then (bif (decide (x1>=(0:Int))) then (bW (decide ((x7.length+1)*16<=140737488355328)) (bif r371 then (κ0 (x7++[AV.agg [AV.int x1,AV.int (max2 x1 (IntKind.wrap .i64 (x2-2)))]]) x3 x4) else (j4 x0 (min2 (IntKind.wrap .i64 (x6+1)) x6) (IntKind.wrap .i64 (x6+1)) x3 x4 x5 x6 (x7++[AV.agg [AV.int x1,AV.int (max2 x1 (IntKind.wrap .i64 (x2-2)))]])))) else (bif r371 then (κ0 x7 x3 x4) else (j4 x0 (min2 (IntKind.wrap .i64 (x6+1)) x6) (IntKind.wrap .i64 (x6+1)) x3 x4 x5 x6 x7))) else (j4 x0 x1 (IntKind.wrap .i64 (x6+1)) x3 x4 x5 x6 x7))))))))) else (bif (decide (x1>=(0:Int))) then (bW (decide ((x7.length+1)*16<=140737488355328)) (κ0 (x7++[AV.agg [AV.int x1,AV.int x6]]) x3 x4)) else (κ0 x7 x3 x4)))
def e {R:Type} (c1:aE.F R) (c2:b7.F R) (a0:BA) (a1:Int) (a2:Int) (a3:Int) (a4:BA) (j4:J4 R) (κ0:Q0 R):Option R :=
 (j4 a4 (-1) a2 a0 a1 a2 a3 ([]:LA))
def L4 {R:Type} (c1:aE.F R) (c2:b7.F R) (κ0:Q0 R):Nat->J4 R
 | 0=>fun _ _ _ _ _ _ _ _=>none
 | f+1=>t4 c1 c2 (L4 c1 c2 κ0 f) κ0
end bc
def bc {R:Type}:bc.F R:=fun a0 a1 a2 a3 a4 κ0=>bc.e aE b7 a0 a1 a2 a3 a4 (bc.L4 aE b7 κ0 aH) κ0
abbrev aA.Q0 (R:Type):Type:=BA->Int->BA->BA->BA->LA->Bool->BA->Bool->BA->Bool->BA->Bool->BA->LA->LA->Bool->BA->Int->Int->Int->Int->Int->Option R
abbrev aA.Q1 (R:Type):Type:=LA->BA->Int->BA->BA->BA->LA->Bool->BA->Bool->BA->Bool->BA->Bool->BA->LA->LA->Bool->BA->Int->Int->Int->Int->Int->Option R
abbrev aA.F (R:Type):Type:=BA->Int->BA->BA->BA->LA->Bool->BA->Bool->BA->Bool->BA->Bool->BA->LA->LA->Bool->BA->Int->Int->Int->Int->Int->aA.Q0 R->aA.Q1 R->Option R
namespace aA
abbrev J8 (R:Type):Type:=LA->Int->Int->BA->BA->BA->LA->Bool->BA->Bool->BA->Bool->BA->Bool->BA->LA->LA->Bool->BA->Int->Int->Int->Int->Int->BA->Int->Option R
def t8 {R:Type} (c2:bc.F R) (j8:J8 R) (κ0:Q0 R) (κ1:Q1 R):J8 R :=
 fun x0 x1 x2 x3 x4 x5 x6 x7 x8 x9 x10 x11 x12 x13 x14 x15 x16 x17 x18 x19 x20 x21 x22 x23 x24 x25=>(bif (decide (x2<x1)) then (bW ((decide ((0:Int)<=x2))&&(decide (x2<(x0.length:Int)))) (bif (decide (((bZ x0 x2).fld 0).s=(⟨#[98,111,117,110,100,97,114,121]⟩:BA))) then (bif (decide ((((bZ x0 x2).fld 1).s.size:Int)>=(1:Int))) then (bif (decide ((((bZ x0 x2).fld 1).s.size:Int)<=(70:Int))) then (c2 x24 x25 x21 x22 ((bZ x0 x2).fld 1).s (fun r372 r373 r374=>(κ1 r372 r373 r374 x3 x4 x5 x6 x7 x8 x9 x10 x11 x12 x13 x14 x15 x16 x17 x18 x19 x20 x21 x22 x23))) else (j8 x0 x1 (IntKind.wrap .i64 (x2+1)) x3 x4 x5 x6 x7 x8 x9 x10 x11 x12 x13 x14 x15 x16 x17 x18 x19 x20 x21 x22 x23 x24 x25)) else (j8 x0 x1 (IntKind.wrap .i64 (x2+1)) x3 x4 x5 x6 x7 x8 x9 x10 x11 x12 x13 x14 x15 x16 x17 x18 x19 x20 x21 x22 x23 x24 x25)) else (j8 x0 x1 (IntKind.wrap .i64 (x2+1)) x3 x4 x5 x6 x7 x8 x9 x10 x11 x12 x13 x14 x15 x16 x17 x18 x19 x20 x21 x22 x23 x24 x25))) else (κ0 x24 x25 x3 x4 x5 x6 x7 x8 x9 x10 x11 x12 x13 x14 x15 x16 x17 x18 x19 x20 x21 x22 x23))
def e {R:Type} (c1:br.F R) (c2:bc.F R) (a0:BA) (a1:Int) (a2:BA) (a3:BA) (a4:BA) (a5:LA) (a6:Bool) (a7:BA) (a8:Bool) (a9:BA) (a10:Bool) (a11:BA) (a12:Bool) (a13:BA) (a14:LA) (a15:LA) (a16:Bool) (a17:BA) (a18:Int) (a19:Int) (a20:Int) (a21:Int) (a22:Int) (j8:J8 R) (κ0:Q0 R) (κ1:Q1 R):Option R :=
 (c1 a2 a3 a4 a5 a6 a7 a8 a9 a10 a11 a12 a13 a14 a15 a16 a17 a18 a19 a20 a21 a22 (fun r334 r335 r336 r337 r338 r339 r340 r341 r342 r343 r344 r345 r346 r347 r348 r349 r350 r351 r352 r353 r354 r355=>(bif r334 then (bif r343 then (bif (!decide (r344=(⟨#[55,98,105,116]⟩:BA))) then (bif (!decide (r344=(⟨#[56,98,105,116]⟩:BA))) then (bif (!decide (r344=(⟨#[98,105,110,97,114,121]⟩:BA))) then (κ0 a0 a1 r335 r336 r337 r338 r339 r340 r341 r342 r343 r344 r345 r346 r347 r348 r349 r350 r351 r352 r353 r354 r355) else (κ1 [AV.agg [AV.int r353,AV.int r354]] a0 a1 r335 r336 r337 r338 r339 r340 r341 r342 r343 r344 r345 r346 r347 r348 r349 r350 r351 r352 r353 r354 r355)) else (κ1 [AV.agg [AV.int r353,AV.int r354]] a0 a1 r335 r336 r337 r338 r339 r340 r341 r342 r343 r344 r345 r346 r347 r348 r349 r350 r351 r352 r353 r354 r355)) else (κ1 [AV.agg [AV.int r353,AV.int r354]] a0 a1 r335 r336 r337 r338 r339 r340 r341 r342 r343 r344 r345 r346 r347 r348 r349 r350 r351 r352 r353 r354 r355)) else (κ1 [AV.agg [AV.int r353,AV.int r354]] a0 a1 r335 r336 r337 r338 r339 r340 r341 r342 r343 r344 r345 r346 r347 r348 r349 r350 r351 r352 r353 r354 r355)) else (bif (!decide (r336=(⟨#[109,117,108,116,105,112,97,114,116]⟩:BA))) then (κ0 a0 a1 r335 r336 r337 r338 r339 r340 r341 r342 r343 r344 r345 r346 r347 r348 r349 r350 r351 r352 r353 r354 r355) else (j8 r338 (r338.length:Int) 0 r335 r336 r337 r338 r339 r340 r341 r342 r343 r344 r345 r346 r347 r348 r349 r350 r351 r352 r353 r354 r355 a0 a1)))))
def L8 {R:Type} (c1:br.F R) (c2:bc.F R) (κ0:Q0 R) (κ1:Q1 R):Nat->J8 R
 | 0=>fun _ _ _ _ _ _ _ _ _ _ _ _ _ _ _ _ _ _ _ _ _ _ _ _ _ _=>none
 | f+1=>t8 c2 (L8 c1 c2 κ0 κ1 f) κ0 κ1
end aA
def aA {R:Type}:aA.F R:=fun a0 a1 a2 a3 a4 a5 a6 a7 a8 a9 a10 a11 a12 a13 a14 a15 a16 a17 a18 a19 a20 a21 a22 κ0 κ1=>aA.e br bc a0 a1 a2 a3 a4 a5 a6 a7 a8 a9 a10 a11 a12 a13 a14 a15 a16 a17 a18 a19 a20 a21 a22 (aA.L8 br bc κ0 κ1 aH) κ0 κ1
abbrev cX.F (R:Type):Type:=Int->(BA->Option R)->Option R
namespace cX
def e {R:Type} (a0:Int) (κ0:BA->Option R):Option R :=
 (bif (decide (a0<(10:Int))) then (bW ((decide ((0:Int)<=a0))&&((decide (a0<=(IntKind.wrap .i64 (a0+1))))&&(decide ((IntKind.wrap .i64 (a0+1))<=((⟨#[48,49,50,51,52,53,54,55,56,57,97,98,99,100,101,102,103,104,105,106,107,108,109,110,111,112,113,114,115,116,117,118,119,120,121,122]⟩:BA).size:Int))))) (κ0 ((⟨#[48,49,50,51,52,53,54,55,56,57,97,98,99,100,101,102,103,104,105,106,107,108,109,110,111,112,113,114,115,116,117,118,119,120,121,122]⟩:BA).extract (a0).toNat ((IntKind.wrap .i64 (a0+1))).toNat))) else (bW ((decide ((0:Int)<=(IntKind.wrap .i64 (a0*2))))&&((decide ((IntKind.wrap .i64 (a0*2))<=(IntKind.wrap .i64 ((IntKind.wrap .i64 (a0*2))+2))))&&(decide ((IntKind.wrap .i64 ((IntKind.wrap .i64 (a0*2))+2))<=((⟨#[48,48,48,49,48,50,48,51,48,52,48,53,48,54,48,55,48,56,48,57,49,48,49,49,49,50,49,51,49,52,49,53,49,54,49,55,49,56,49,57,50,48,50,49,50,50,50,51,50,52,50,53,50,54,50,55,50,56,50,57,51,48,51,49,51,50,51,51,51,52,51,53,51,54,51,55,51,56,51,57,52,48,52,49,52,50,52,51,52,52,52,53,52,54,52,55,52,56,52,57,53,48,53,49,53,50,53,51,53,52,53,53,53,54,53,55,53,56,53,57,54,48,54,49,54,50,54,51,54,52,54,53,54,54,54,55,54,56,54,57,55,48,55,49,55,50,55,51,55,52,55,53,55,54,55,55,55,56,55,57,56,48,56,49,56,50,56,51,56,52,56,53,56,54,56,55,56,56,56,57,57,48,57,49,57,50,57,51,57,52,57,53,57,54,57,55,57,56,57,57]⟩:BA).size:Int))))) (κ0 ((⟨#[48,48,48,49,48,50,48,51,48,52,48,53,48,54,48,55,48,56,48,57,49,48,49,49,49,50,49,51,49,52,49,53,49,54,49,55,49,56,49,57,50,48,50,49,50,50,50,51,50,52,50,53,50,54,50,55,50,56,50,57,51,48,51,49,51,50,51,51,51,52,51,53,51,54,51,55,51,56,51,57,52,48,52,49,52,50,52,51,52,52,52,53,52,54,52,55,52,56,52,57,53,48,53,49,53,50,53,51,53,52,53,53,53,54,53,55,53,56,53,57,54,48,54,49,54,50,54,51,54,52,54,53,54,54,54,55,54,56,54,57,55,48,55,49,55,50,55,51,55,52,55,53,55,54,55,55,55,56,55,57,56,48,56,49,56,50,56,51,56,52,56,53,56,54,56,55,56,56,56,57,57,48,57,49,57,50,57,51,57,52,57,53,57,54,57,55,57,56,57,57]⟩:BA).extract ((IntKind.wrap .i64 (a0*2))).toNat ((IntKind.wrap .i64 ((IntKind.wrap .i64 (a0*2))+2))).toNat))))
end cX
def cX {R:Type}:cX.F R:=fun a0 κ0=>cX.e a0 κ0
abbrev ch.F (R:Type):Type:=Int->Int->(BA->Option R)->Option R
namespace ch
def e {R:Type} (c1:cX.F R) (a0:Int) (a1:Int) (κ0:BA->Option R):Option R :=
 (bif (a1 == 10) then (bif (decide ((0:Int)<=a0)) then (bif (decide (a0<(100:Int))) then (c1 a0 (fun r514=>(κ0 r514))) else (bif (decide (a0<(0:Int))) then none else none)) else (bif (decide (a0<(0:Int))) then none else none)) else none)
end ch
def ch {R:Type}:ch.F R:=fun a0 a1 κ0=>ch.e cX a0 a1 κ0
abbrev dk.F (R:Type):Type:=Int->(BA->Option R)->Option R
namespace dk
def e {R:Type} (c1:ch.F R) (a0:Int) (κ0:BA->Option R):Option R :=
 (c1 a0 10 (fun r523=>(κ0 r523)))
end dk
def dk {R:Type}:dk.F R:=fun a0 κ0=>dk.e ch a0 κ0
abbrev bT.F (R:Type):Type:=Int->(BA->Option R)->Option R
namespace bT
def e {R:Type} (c1:dk.F R) (a0:Int) (κ0:BA->Option R):Option R :=
 (c1 a0 (fun r524=>(κ0 r524)))
end bT
def bT {R:Type}:bT.F R:=fun a0 κ0=>bT.e dk a0 κ0
abbrev aN.F (R:Type):Type:=BA->(Int->Option R)->Option R
namespace aN
abbrev J2 (R:Type):Type:=Int->BA->Nat->Option R
def t2 {R:Type} (j2:J2 R) (κ0:Int->Option R):J2 R :=
 fun x0 x1 x2=>(bif (decide (x2<x1.size)) then (j2 (IntKind.wrap .i64 (x0+1)) x1 (x2+(Utf8.decode x1 x2).2)) else (κ0 x0))
def e {R:Type} (a0:BA) (j2:J2 R) (κ0:Int->Option R):Option R :=
 (j2 0 a0 0)
def L2 {R:Type} (κ0:Int->Option R):Nat->J2 R
 | 0=>fun _ _ _=>none
 | f+1=>t2 (L2 κ0 f) κ0
end aN
def aN {R:Type}:aN.F R:=fun a0 κ0=>aN.e a0 (aN.L2 κ0 aH) κ0
abbrev bp.F (R:Type):Type:=BA->BA->(Int->Option R)->Option R
namespace bp
abbrev J6 (R:Type):Type:=BA->BA->Int->Option R
def t6 {R:Type} (c2:aE.F R) (j6:J6 R) (κ0:Int->Option R):J6 R :=
 fun x0 x1 x2=>(c2 x0 x1 (fun r643=>(bif (r643 == (-1)) then (κ0 x2) else (bW ((decide ((0:Int)<=(IntKind.wrap .i64 (r643+(x1.size:Int)))))&&((decide ((IntKind.wrap .i64 (r643+(x1.size:Int)))<=(x0.size:Int)))&&(decide ((x0.size:Int)<=(x0.size:Int))))) (j6 (x0.extract ((IntKind.wrap .i64 (r643+(x1.size:Int)))).toNat ((x0.size:Int)).toNat) x1 (IntKind.wrap .i64 (x2+1)))))))
def e {R:Type} (c1:aN.F R) (c2:aE.F R) (a0:BA) (a1:BA) (j6:J6 R) (κ0:Int->Option R):Option R :=
 (bif ((a1.size:Int) == 0) then (c1 a0 (fun r642=>(κ0 (IntKind.wrap .i64 (r642+1))))) else (bif ((a1.size:Int) == 1) then (bW (decide ((0:Int)<(a1.size:Int))) none) else (j6 a0 a1 0)))
def L6 {R:Type} (c1:aN.F R) (c2:aE.F R) (κ0:Int->Option R):Nat->J6 R
 | 0=>fun _ _ _=>none
 | f+1=>t6 c2 (L6 c1 c2 κ0 f) κ0
end bp
def bp {R:Type}:bp.F R:=fun a0 a1 κ0=>bp.e aN aE a0 a1 (bp.L6 aN aE κ0 aH) κ0
abbrev af.Q0 (R:Type):Type:=Bool->BA->BA->BA->LA->Bool->BA->Bool->BA->Bool->BA->Bool->BA->LA->LA->Bool->BA->Int->Int->Int->Int->Int->LA->Option R
abbrev af.F (R:Type):Type:=BA->BA->BA->LA->Bool->BA->Bool->BA->Bool->BA->Bool->BA->LA->LA->Bool->BA->Int->Int->Int->Int->Int->LA->af.Q0 R->Option R
namespace af
def e {R:Type} (a0:BA) (a1:BA) (a2:BA) (a3:LA) (a4:Bool) (a5:BA) (a6:Bool) (a7:BA) (a8:Bool) (a9:BA) (a10:Bool) (a11:BA) (a12:LA) (a13:LA) (a14:Bool) (a15:BA) (a16:Int) (a17:Int) (a18:Int) (a19:Int) (a20:Int) (a21:LA) (κ0:Q0 R):Option R :=
 (bif (decide (a1=(⟨#[109,101,115,115,97,103,101]⟩:BA))) then (κ0 (decide (a2=(⟨#[114,102,99,56,50,50]⟩:BA))) a0 a1 a2 a3 a4 a5 a6 a7 a8 a9 a10 a11 a12 a13 a14 a15 a16 a17 a18 a19 a20 a21) else (κ0 false a0 a1 a2 a3 a4 a5 a6 a7 a8 a9 a10 a11 a12 a13 a14 a15 a16 a17 a18 a19 a20 a21))
end af
def af {R:Type}:af.F R:=fun a0 a1 a2 a3 a4 a5 a6 a7 a8 a9 a10 a11 a12 a13 a14 a15 a16 a17 a18 a19 a20 a21 κ0=>af.e a0 a1 a2 a3 a4 a5 a6 a7 a8 a9 a10 a11 a12 a13 a14 a15 a16 a17 a18 a19 a20 a21 κ0
abbrev ay.Q0 (R:Type):Type:=Bool->BA->BA->BA->LA->Bool->BA->Bool->BA->Bool->BA->Bool->BA->LA->LA->Bool->BA->Int->Int->Int->Int->Int->LA->Option R
abbrev ay.F (R:Type):Type:=BA->BA->BA->LA->Bool->BA->Bool->BA->Bool->BA->Bool->BA->LA->LA->Bool->BA->Int->Int->Int->Int->Int->LA->ay.Q0 R->Option R
namespace ay
def e {R:Type} (a0:BA) (a1:BA) (a2:BA) (a3:LA) (a4:Bool) (a5:BA) (a6:Bool) (a7:BA) (a8:Bool) (a9:BA) (a10:Bool) (a11:BA) (a12:LA) (a13:LA) (a14:Bool) (a15:BA) (a16:Int) (a17:Int) (a18:Int) (a19:Int) (a20:Int) (a21:LA) (κ0:Q0 R):Option R :=
 (bif (decide (a1=(⟨#[109,101,115,115,97,103,101]⟩:BA))) then (κ0 (decide (a2=(⟨#[114,102,99,56,50,50]⟩:BA))) a0 a1 a2 a3 a4 a5 a6 a7 a8 a9 a10 a11 a12 a13 a14 a15 a16 a17 a18 a19 a20 a21) else (κ0 false a0 a1 a2 a3 a4 a5 a6 a7 a8 a9 a10 a11 a12 a13 a14 a15 a16 a17 a18 a19 a20 a21))
end ay
def ay {R:Type}:ay.F R:=fun a0 a1 a2 a3 a4 a5 a6 a7 a8 a9 a10 a11 a12 a13 a14 a15 a16 a17 a18 a19 a20 a21 κ0=>ay.e a0 a1 a2 a3 a4 a5 a6 a7 a8 a9 a10 a11 a12 a13 a14 a15 a16 a17 a18 a19 a20 a21 κ0
abbrev bB.Q0 (R:Type):Type:=BA->BA->BA->BA->LA->Bool->BA->Bool->BA->Bool->BA->Bool->BA->LA->LA->Bool->BA->Int->Int->Int->Int->Int->LA->Option R
abbrev bB.F (R:Type):Type:=BA->BA->BA->LA->Bool->BA->Bool->BA->Bool->BA->Bool->BA->LA->LA->Bool->BA->Int->Int->Int->Int->Int->LA->Int->Bool->Int->bB.Q0 R->Option R
namespace bB
def e {R:Type} (c1:ay.F R) (c2:bT.F R) (a0:BA) (a1:BA) (a2:BA) (a3:LA) (a4:Bool) (a5:BA) (a6:Bool) (a7:BA) (a8:Bool) (a9:BA) (a10:Bool) (a11:BA) (a12:LA) (a13:LA) (a14:Bool) (a15:BA) (a16:Int) (a17:Int) (a18:Int) (a19:Int) (a20:Int) (a21:LA) (a22:Int) (a23:Bool) (a24:Int) (κ0:Q0 R):Option R :=
 (c1 a0 a1 a2 a3 a4 a5 a6 a7 a8 a9 a10 a11 a12 a13 a14 a15 a16 a17 a18 a19 a20 a21 (fun r1221 r1222 r1223 r1224 r1225 r1226 r1227 r1228 r1229 r1230 r1231 r1232 r1233 r1234 r1235 r1236 r1237 r1238 r1239 r1240 r1241 r1242 r1243=>(bif r1221 then (bif (decide (a22>(0:Int))) then (bif (!a23) then (κ0 r1222 r1222 r1223 r1224 r1225 r1226 r1227 r1228 r1229 r1230 r1231 r1232 r1233 r1234 r1235 r1236 r1237 r1238 r1239 r1240 r1241 r1242 r1243) else (bif (decide (r1222=(⟨#[]⟩:BA))) then (c2 a24 (fun r1244=>(κ0 r1244 r1222 r1223 r1224 r1225 r1226 r1227 r1228 r1229 r1230 r1231 r1232 r1233 r1234 r1235 r1236 r1237 r1238 r1239 r1240 r1241 r1242 r1243))) else (bW (decide (r1222.size+(⟨#[46]⟩:BA).size<=9223372036854775807)) (c2 a24 (fun r1245=>(bW (decide ((r1222++(⟨#[46]⟩:BA)).size+r1245.size<=9223372036854775807)) (κ0 ((r1222++(⟨#[46]⟩:BA))++r1245) r1222 r1223 r1224 r1225 r1226 r1227 r1228 r1229 r1230 r1231 r1232 r1233 r1234 r1235 r1236 r1237 r1238 r1239 r1240 r1241 r1242 r1243))))))) else (bif (decide (r1222=(⟨#[]⟩:BA))) then (c2 a24 (fun r1246=>(κ0 r1246 r1222 r1223 r1224 r1225 r1226 r1227 r1228 r1229 r1230 r1231 r1232 r1233 r1234 r1235 r1236 r1237 r1238 r1239 r1240 r1241 r1242 r1243))) else (bW (decide (r1222.size+(⟨#[46]⟩:BA).size<=9223372036854775807)) (c2 a24 (fun r1247=>(bW (decide ((r1222++(⟨#[46]⟩:BA)).size+r1247.size<=9223372036854775807)) (κ0 ((r1222++(⟨#[46]⟩:BA))++r1247) r1222 r1223 r1224 r1225 r1226 r1227 r1228 r1229 r1230 r1231 r1232 r1233 r1234 r1235 r1236 r1237 r1238 r1239 r1240 r1241 r1242 r1243))))))) else (bif (decide (r1222=(⟨#[]⟩:BA))) then (c2 a24 (fun r1248=>(κ0 r1248 r1222 r1223 r1224 r1225 r1226 r1227 r1228 r1229 r1230 r1231 r1232 r1233 r1234 r1235 r1236 r1237 r1238 r1239 r1240 r1241 r1242 r1243))) else (bW (decide (r1222.size+(⟨#[46]⟩:BA).size<=9223372036854775807)) (c2 a24 (fun r1249=>(bW (decide ((r1222++(⟨#[46]⟩:BA)).size+r1249.size<=9223372036854775807)) (κ0 ((r1222++(⟨#[46]⟩:BA))++r1249) r1222 r1223 r1224 r1225 r1226 r1227 r1228 r1229 r1230 r1231 r1232 r1233 r1234 r1235 r1236 r1237 r1238 r1239 r1240 r1241 r1242 r1243)))))))))
end bB
def bB {R:Type}:bB.F R:=fun a0 a1 a2 a3 a4 a5 a6 a7 a8 a9 a10 a11 a12 a13 a14 a15 a16 a17 a18 a19 a20 a21 a22 a23 a24 κ0=>bB.e ay bT a0 a1 a2 a3 a4 a5 a6 a7 a8 a9 a10 a11 a12 a13 a14 a15 a16 a17 a18 a19 a20 a21 a22 a23 a24 κ0
abbrev ae.Q0 (R:Type):Type:=BA->Int->BA->BA->BA->LA->Bool->BA->Bool->BA->Bool->BA->Bool->BA->LA->LA->Bool->BA->Int->Int->Int->Int->Int->LA->Option R
abbrev ae.Q1 (R:Type):Type:=BA->Int->BA->BA->BA->Bool->BA->Bool->BA->Bool->BA->Bool->BA->LA->LA->Bool->BA->Int->Int->Int->Int->Int->LA->Option R
abbrev ae.F (R:Type):Type:=BA->Int->BA->BA->BA->LA->Bool->BA->Bool->BA->Bool->BA->Bool->BA->LA->LA->Bool->BA->Int->Int->Int->Int->Int->Int->Bool->ae.Q0 R->ae.Q1 R->Option R
namespace ae
abbrev J2 (R:Type):Type:=Int->Bool->BA->BA->BA->LA->Bool->BA->Bool->BA->Bool->BA->Bool->BA->LA->LA->Bool->BA->Int->Int->Int->Int->Int->BA->Int->LA->Option R
abbrev J5 (R:Type):Type:=Int->Bool->Int->Int->BA->BA->BA->LA->Bool->BA->Bool->BA->Bool->BA->Bool->BA->LA->LA->Bool->BA->Int->Int->Int->Int->Int->BA->Int->LA->LA->Option R
abbrev J8 (R:Type):Type:=Int->Bool->Int->Int->Int->BA->BA->BA->LA->Bool->BA->Bool->BA->Bool->BA->Bool->BA->LA->LA->Bool->BA->Int->Int->Int->Int->Int->BA->Int->LA->BA->BA->BA->LA->Bool->BA->Bool->BA->Bool->BA->Bool->BA->LA->LA->Bool->BA->Int->Int->Int->Int->Int->LA->Option R
abbrev Dr (R:Type):Type:=Int->Bool->Int->Int->BA->BA->BA->LA->Bool->BA->Bool->BA->Bool->BA->Bool->BA->LA->LA->Bool->BA->Int->Int->Int->Int->Int->BA->Int->LA->LA->Option R
abbrev my (R:Type):Type:=BA->BA->BA->LA->Bool->BA->Bool->BA->Bool->BA->Bool->BA->LA->LA->Bool->BA->Int->Int->Int->Int->Int->LA->BA->Int->Option R
def DH:=fun x0 x1 x2 x3 x4 x5 x6 x7 x8 x9 x10 x11 x12 x13 x14 x15 x16 x17 x18 x19 x20 x21 x22 x23 x24 x25 x26 x27 x28=>(⟨eJ 156 [(0,.ptr 0 0),(1,.ptr 1 0),(2,.int .i64 x0),(3,.bool x1),(40,.own 2624),(41,.int .i64 x2),(42,.int .i64 x3)],[(1,.var 31 [.str x4,.str x5,.str x6,.ro 95 x7 true,.bool x8,.str x9,.bool x10,.str x11,.bool x12,.str x13,.bool x14,.str x15,.ro 95 x16 true,.ro 9 x17 true,.bool x18,.str x19,.int .i64 x20,.int .i64 x21,.int .i64 x22,.int .i64 x23,.int .i64 x24,.own 149]),(0,.var 49 [.str x25,.int .i64 x26]),(149,.row 31 x27 true),(2624,.row 28 x28 true)],eH⟩:St)
def t2 {R:Type} (j5:J5 R) (j15:my R):J2 R :=
 fun x0 x1 x2 x3 x4 x5 x6 x7 x8 x9 x10 x11 x12 x13 x14 x15 x16 x17 x18 x19 x20 x21 x22 x23 x24 x25=>(bif (decide (x0<(5:Int))) then (bif (decide ((IntKind.wrap .i64 (x24+(x25.length:Int)))<=(16:Int))) then (j5 x0 x1 (x25.length:Int) 0 x2 x3 x4 x5 x6 x7 x8 x9 x10 x11 x12 x13 x14 x15 x16 x17 x18 x19 x20 x21 x22 x23 (IntKind.wrap .i64 (x24+(x25.length:Int))) ([]:LA) x25) else (j15 x2 x3 x4 x5 x6 x7 x8 x9 x10 x11 x12 x13 x14 x15 x16 x17 x18 x19 x20 x21 x22 ([]:LA) x23 x24)) else (j15 x2 x3 x4 x5 x6 x7 x8 x9 x10 x11 x12 x13 x14 x15 x16 x17 x18 x19 x20 x21 x22 ([]:LA) x23 x24))
def t5 {R:Type} (c2:az.F R) (j8:J8 R) (j15:my R):J5 R :=
 fun x0 x1 x2 x3 x4 x5 x6 x7 x8 x9 x10 x11 x12 x13 x14 x15 x16 x17 x18 x19 x20 x21 x22 x23 x24 x25 x26 x27 x28=>(bif (decide (x3<x2)) then (bW ((decide ((0:Int)<=x3))&&(decide (x3<(x28.length:Int)))) (bif (decide (x5=(⟨#[109,117,108,116,105,112,97,114,116]⟩:BA))) then (c2 x25 x26 ((bZ x28 x3).fld 0).i ((bZ x28 x3).fld 1).i (decide (x6=(⟨#[100,105,103,101,115,116]⟩:BA))) (fun r2710 r2711 r2712 r2713 r2714 r2715 r2716 r2717 r2718 r2719 r2720 r2721 r2722 r2723 r2724 r2725 r2726 r2727 r2728 r2729 r2730 r2731 r2732=>(j8 x0 x1 x3 x2 x3 x4 x5 x6 x7 x8 x9 x10 x11 x12 x13 x14 x15 x16 x17 x18 x19 x20 x21 x22 x23 x24 r2731 r2732 x27 r2710 r2711 r2712 r2713 r2714 r2715 r2716 r2717 r2718 r2719 r2720 r2721 r2722 r2723 r2724 r2725 r2726 r2727 r2728 r2729 r2730 x28))) else (c2 x25 x26 ((bZ x28 x3).fld 0).i ((bZ x28 x3).fld 1).i false (fun r2733 r2734 r2735 r2736 r2737 r2738 r2739 r2740 r2741 r2742 r2743 r2744 r2745 r2746 r2747 r2748 r2749 r2750 r2751 r2752 r2753 r2754 r2755=>(j8 x0 x1 x3 x2 x3 x4 x5 x6 x7 x8 x9 x10 x11 x12 x13 x14 x15 x16 x17 x18 x19 x20 x21 x22 x23 x24 r2754 r2755 x27 r2733 r2734 r2735 r2736 r2737 r2738 r2739 r2740 r2741 r2742 r2743 r2744 r2745 r2746 r2747 r2748 r2749 r2750 r2751 r2752 r2753 x28))))) else (j15 x4 x5 x6 x7 x8 x9 x10 x11 x12 x13 x14 x15 x16 x17 x18 x19 x20 x21 x22 x23 x24 x27 x25 x26))
def t8 {R:Type} (c5:bB.F R) (c6:ay.F R) (c7:ae.F R) (j14:Dr R):J8 R :=
 fun x0 x1 x2 x3 x4 x5 x6 x7 x8 x9 x10 x11 x12 x13 x14 x15 x16 x17 x18 x19 x20 x21 x22 x23 x24 x25 x26 x27 x28 x29 x30 x31 x32 x33 x34 x35 x36 x37 x38 x39 x40 x41 x42 x43 x44 x45 x46 x47 x48 x49 x50=>(c5 x5 x6 x7 x8 x9 x10 x11 x12 x13 x14 x15 x16 x17 x18 x19 x20 x21 x22 x23 x24 x25 x28 x0 x1 (IntKind.wrap .i64 (x2+1)) (fun r2803 r2804 r2805 r2806 r2807 r2808 r2809 r2810 r2811 r2812 r2813 r2814 r2815 r2816 r2817 r2818 r2819 r2820 r2821 r2822 r2823 r2824 r2825=>(c6 r2804 r2805 r2806 r2807 r2808 r2809 r2810 r2811 r2812 r2813 r2814 r2815 r2816 r2817 r2818 r2819 r2820 r2821 r2822 r2823 r2824 r2825 (fun r2826 r2827 r2828 r2829 r2830 r2831 r2832 r2833 r2834 r2835 r2836 r2837 r2838 r2839 r2840 r2841 r2842 r2843 r2844 r2845 r2846 r2847 r2848=>(c7 x26 x27 r2803 x30 x31 x32 x33 x34 x35 x36 x37 x38 x39 x40 x41 x42 x43 x44 x45 x46 x47 x48 x49 (IntKind.wrap .i64 (x0+1)) r2826 (fun r2849 r2850 r2851 r2852 r2853 r2854 r2855 r2856 r2857 r2858 r2859 r2860 r2861 r2862 r2863 r2864 r2865 r2866 r2867 r2868 r2869 r2870 r2871 r2872=>(bW (decide ((r2848.length+1)*304<=140737488355328)) (bW (decide ((r2848.length+1)*304<=140737488355328)) (bW ((decide ((0:Int)<=(r2848.length:Int)))&&(decide ((r2848.length:Int)<((r2848++[AV.agg [AV.str (⟨#[]⟩:BA),AV.str (⟨#[]⟩:BA),AV.str (⟨#[]⟩:BA),AV.sl [],AV.bool false,AV.str (⟨#[]⟩:BA),AV.bool false,AV.str (⟨#[]⟩:BA),AV.bool false,AV.str (⟨#[]⟩:BA),AV.bool false,AV.str (⟨#[]⟩:BA),AV.sl [],AV.sl [],AV.bool false,AV.str (⟨#[]⟩:BA),AV.int 0,AV.int 0,AV.int 0,AV.int 0,AV.int 0,AV.sl []]]).length:Int)))) (bW (yJ (DH x0 x1 x3 x4 r2827 r2828 r2829 r2830 r2831 r2832 r2833 r2834 r2835 r2836 r2837 r2838 r2839 r2840 r2841 r2842 r2843 r2844 r2845 r2846 r2847 r2849 r2850 (r2848++[AV.agg [AV.str r2851,AV.str r2852,AV.str r2853,AV.sl r2854,AV.bool r2855,AV.str r2856,AV.bool r2857,AV.str r2858,AV.bool r2859,AV.str r2860,AV.bool r2861,AV.str r2862,AV.sl r2863,AV.sl r2864,AV.bool r2865,AV.str r2866,AV.int r2867,AV.int r2868,AV.int r2869,AV.int r2870,AV.int r2871,AV.sl r2872]]) x50) (DH x0 x1 x3 x4 r2827 r2828 r2829 r2830 r2831 r2832 r2833 r2834 r2835 r2836 r2837 r2838 r2839 r2840 r2841 r2842 r2843 r2844 r2845 r2846 r2847 r2849 r2850 (dW (r2848++[AV.agg [AV.str (⟨#[]⟩:BA),AV.str (⟨#[]⟩:BA),AV.str (⟨#[]⟩:BA),AV.sl [],AV.bool false,AV.str (⟨#[]⟩:BA),AV.bool false,AV.str (⟨#[]⟩:BA),AV.bool false,AV.str (⟨#[]⟩:BA),AV.bool false,AV.str (⟨#[]⟩:BA),AV.sl [],AV.sl [],AV.bool false,AV.str (⟨#[]⟩:BA),AV.int 0,AV.int 0,AV.int 0,AV.int 0,AV.int 0,AV.sl []]]) (r2848.length:Int) (AV.agg [AV.str r2851,AV.str r2852,AV.str r2853,AV.sl r2854,AV.bool r2855,AV.str r2856,AV.bool r2857,AV.str r2858,AV.bool r2859,AV.str r2860,AV.bool r2861,AV.str r2862,AV.sl r2863,AV.sl r2864,AV.bool r2865,AV.str r2866,AV.int r2867,AV.int r2868,AV.int r2869,AV.int r2870,AV.int r2871,AV.sl r2872])) x50)) (j14 x0 x1 x3 x4 r2827 r2828 r2829 r2830 r2831 r2832 r2833 r2834 r2835 r2836 r2837 r2838 r2839 r2840 r2841 r2842 r2843 r2844 r2845 r2846 r2847 r2849 r2850 (dW (r2848++[AV.agg [AV.str (⟨#[]⟩:BA),AV.str (⟨#[]⟩:BA),AV.str (⟨#[]⟩:BA),AV.sl [],AV.bool false,AV.str (⟨#[]⟩:BA),AV.bool false,AV.str (⟨#[]⟩:BA),AV.bool false,AV.str (⟨#[]⟩:BA),AV.bool false,AV.str (⟨#[]⟩:BA),AV.sl [],AV.sl [],AV.bool false,AV.str (⟨#[]⟩:BA),AV.int 0,AV.int 0,AV.int 0,AV.int 0,AV.int 0,AV.sl []]]) (r2848.length:Int) (AV.agg [AV.str r2851,AV.str r2852,AV.str r2853,AV.sl r2854,AV.bool r2855,AV.str r2856,AV.bool r2857,AV.str r2858,AV.bool r2859,AV.str r2860,AV.bool r2861,AV.str r2862,AV.sl r2863,AV.sl r2864,AV.bool r2865,AV.str r2866,AV.int r2867,AV.int r2868,AV.int r2869,AV.int r2870,AV.int r2871,AV.sl r2872])) x50)))))) (fun r2873 r2874 r2875 r2876 r2877 r2878 r2879 r2880 r2881 r2882 r2883 r2884 r2885 r2886 r2887 r2888 r2889 r2890 r2891 r2892 r2893 r2894 r2895=>(bW (decide ((r2848.length+1)*304<=140737488355328)) (bW (decide ((r2848.length+1)*304<=140737488355328)) (bW ((decide ((0:Int)<=(r2848.length:Int)))&&(decide ((r2848.length:Int)<((r2848++[AV.agg [AV.str (⟨#[]⟩:BA),AV.str (⟨#[]⟩:BA),AV.str (⟨#[]⟩:BA),AV.sl [],AV.bool false,AV.str (⟨#[]⟩:BA),AV.bool false,AV.str (⟨#[]⟩:BA),AV.bool false,AV.str (⟨#[]⟩:BA),AV.bool false,AV.str (⟨#[]⟩:BA),AV.sl [],AV.sl [],AV.bool false,AV.str (⟨#[]⟩:BA),AV.int 0,AV.int 0,AV.int 0,AV.int 0,AV.int 0,AV.sl []]]).length:Int)))) (bW (yJ (DH x0 x1 x3 x4 r2827 r2828 r2829 r2830 r2831 r2832 r2833 r2834 r2835 r2836 r2837 r2838 r2839 r2840 r2841 r2842 r2843 r2844 r2845 r2846 r2847 r2873 r2874 (r2848++[AV.agg [AV.str r2875,AV.str r2876,AV.str r2877,AV.sl [],AV.bool r2878,AV.str r2879,AV.bool r2880,AV.str r2881,AV.bool r2882,AV.str r2883,AV.bool r2884,AV.str r2885,AV.sl r2886,AV.sl r2887,AV.bool r2888,AV.str r2889,AV.int r2890,AV.int r2891,AV.int r2892,AV.int r2893,AV.int r2894,AV.sl r2895]]) x50) (DH x0 x1 x3 x4 r2827 r2828 r2829 r2830 r2831 r2832 r2833 r2834 r2835 r2836 r2837 r2838 r2839 r2840 r2841 r2842 r2843 r2844 r2845 r2846 r2847 r2873 r2874 (dW (r2848++[AV.agg [AV.str (⟨#[]⟩:BA),AV.str (⟨#[]⟩:BA),AV.str (⟨#[]⟩:BA),AV.sl [],AV.bool false,AV.str (⟨#[]⟩:BA),AV.bool false,AV.str (⟨#[]⟩:BA),AV.bool false,AV.str (⟨#[]⟩:BA),AV.bool false,AV.str (⟨#[]⟩:BA),AV.sl [],AV.sl [],AV.bool false,AV.str (⟨#[]⟩:BA),AV.int 0,AV.int 0,AV.int 0,AV.int 0,AV.int 0,AV.sl []]]) (r2848.length:Int) (AV.agg [AV.str r2875,AV.str r2876,AV.str r2877,AV.sl [],AV.bool r2878,AV.str r2879,AV.bool r2880,AV.str r2881,AV.bool r2882,AV.str r2883,AV.bool r2884,AV.str r2885,AV.sl r2886,AV.sl r2887,AV.bool r2888,AV.str r2889,AV.int r2890,AV.int r2891,AV.int r2892,AV.int r2893,AV.int r2894,AV.sl r2895])) x50)) (j14 x0 x1 x3 x4 r2827 r2828 r2829 r2830 r2831 r2832 r2833 r2834 r2835 r2836 r2837 r2838 r2839 r2840 r2841 r2842 r2843 r2844 r2845 r2846 r2847 r2873 r2874 (dW (r2848++[AV.agg [AV.str (⟨#[]⟩:BA),AV.str (⟨#[]⟩:BA),AV.str (⟨#[]⟩:BA),AV.sl [],AV.bool false,AV.str (⟨#[]⟩:BA),AV.bool false,AV.str (⟨#[]⟩:BA),AV.bool false,AV.str (⟨#[]⟩:BA),AV.bool false,AV.str (⟨#[]⟩:BA),AV.sl [],AV.sl [],AV.bool false,AV.str (⟨#[]⟩:BA),AV.int 0,AV.int 0,AV.int 0,AV.int 0,AV.int 0,AV.sl []]]) (r2848.length:Int) (AV.agg [AV.str r2875,AV.str r2876,AV.str r2877,AV.sl [],AV.bool r2878,AV.str r2879,AV.bool r2880,AV.str r2881,AV.bool r2882,AV.str r2883,AV.bool r2884,AV.str r2885,AV.sl r2886,AV.sl r2887,AV.bool r2888,AV.str r2889,AV.int r2890,AV.int r2891,AV.int r2892,AV.int r2893,AV.int r2894,AV.sl r2895])) x50)))))))))))
def t14 {R:Type} (j5:J5 R):Dr R :=
 fun x0 x1 x2 x3 x4 x5 x6 x7 x8 x9 x10 x11 x12 x13 x14 x15 x16 x17 x18 x19 x20 x21 x22 x23 x24 x25 x26 x27 x28=>(j5 x0 x1 x2 (IntKind.wrap .i64 (x3+1)) x4 x5 x6 x7 x8 x9 x10 x11 x12 x13 x14 x15 x16 x17 x18 x19 x20 x21 x22 x23 x24 x25 x26 x27 x28)
def t15 {R:Type} (c3:bp.F R) (c4:af.F R) (κ0:Q0 R) (κ1:Q1 R):my R :=
 fun x0 x1 x2 x3 x4 x5 x6 x7 x8 x9 x10 x11 x12 x13 x14 x15 x16 x17 x18 x19 x20 x21 x22 x23=>(bW ((decide ((0:Int)<=x18))&&((decide (x18<=x19))&&(decide (x19<=(x22.size:Int))))) (c3 (x22.extract (x18).toNat (x19).toNat) (⟨#[13,10]⟩:BA) (fun r2756=>(bif (decide ((x21.length:Int)>(0:Int))) then (c4 x0 x1 x2 x3 x4 x5 x6 x7 x8 x9 x10 x11 x12 x13 x14 x15 x16 x17 x18 x19 x20 x21 (fun r2757 r2758 r2759 r2760 r2761 r2762 r2763 r2764 r2765 r2766 r2767 r2768 r2769 r2770 r2771 r2772 r2773 r2774 r2775 r2776 r2777 r2778 r2779=>(bif r2757 then (κ0 x22 x23 r2758 r2759 r2760 r2761 r2762 r2763 r2764 r2765 r2766 r2767 r2768 r2769 r2770 r2771 r2772 r2773 r2774 r2775 r2776 r2777 r2756 r2779) else (κ0 x22 x23 r2758 r2759 r2760 r2761 r2762 r2763 r2764 r2765 r2766 r2767 r2768 r2769 r2770 r2771 r2772 r2773 r2774 r2775 r2776 r2777 r2778 r2779)))) else (bif (decide (x1=(⟨#[116,101,120,116]⟩:BA))) then (κ0 x22 x23 x0 x1 x2 x3 x4 x5 x6 x7 x8 x9 x10 x11 x12 x13 x14 x15 x16 x17 x18 x19 r2756 x21) else (c4 x0 x1 x2 x3 x4 x5 x6 x7 x8 x9 x10 x11 x12 x13 x14 x15 x16 x17 x18 x19 x20 x21 (fun r2780 r2781 r2782 r2783 r2784 r2785 r2786 r2787 r2788 r2789 r2790 r2791 r2792 r2793 r2794 r2795 r2796 r2797 r2798 r2799 r2800 r2801 r2802=>(bif r2780 then (κ1 x22 x23 r2781 (⟨#[97,112,112,108,105,99,97,116,105,111,110]⟩:BA) (⟨#[111,99,116,101,116,45,115,116,114,101,97,109]⟩:BA) r2785 r2786 r2787 r2788 r2789 r2790 r2791 r2792 r2793 r2794 r2795 r2796 r2797 r2798 r2799 r2800 r2801 r2802) else (bif (decide (r2782=(⟨#[109,117,108,116,105,112,97,114,116]⟩:BA))) then (κ1 x22 x23 r2781 (⟨#[97,112,112,108,105,99,97,116,105,111,110]⟩:BA) (⟨#[111,99,116,101,116,45,115,116,114,101,97,109]⟩:BA) r2785 r2786 r2787 r2788 r2789 r2790 r2791 r2792 r2793 r2794 r2795 r2796 r2797 r2798 r2799 r2800 r2801 r2802) else (κ0 x22 x23 r2781 r2782 r2783 r2784 r2785 r2786 r2787 r2788 r2789 r2790 r2791 r2792 r2793 r2794 r2795 r2796 r2797 r2798 r2799 r2800 r2801 r2802))))))))))
def e {R:Type} (c1:aA.F R) (c2:az.F R) (c3:bp.F R) (c4:af.F R) (c5:bB.F R) (c6:ay.F R) (c7:ae.F R) (a0:BA) (a1:Int) (a2:BA) (a3:BA) (a4:BA) (a5:LA) (a6:Bool) (a7:BA) (a8:Bool) (a9:BA) (a10:Bool) (a11:BA) (a12:Bool) (a13:BA) (a14:LA) (a15:LA) (a16:Bool) (a17:BA) (a18:Int) (a19:Int) (a20:Int) (a21:Int) (a22:Int) (a23:Int) (a24:Bool) (j2:J2 R) (j5:J5 R) (j8:J8 R) (j14:Dr R) (j15:my R) (κ0:Q0 R) (κ1:Q1 R):Option R :=
 (c1 a0 a1 a2 a3 a4 a5 a6 a7 a8 a9 a10 a11 a12 a13 a14 a15 a16 a17 a18 a19 a20 a21 a22 (fun r2663 r2664 r2665 r2666 r2667 r2668 r2669 r2670 r2671 r2672 r2673 r2674 r2675 r2676 r2677 r2678 r2679 r2680 r2681 r2682 r2683 r2684 r2685=>(j2 a23 a24 r2665 r2666 r2667 r2668 r2669 r2670 r2671 r2672 r2673 r2674 r2675 r2676 r2677 r2678 r2679 r2680 r2681 r2682 r2683 r2684 r2685 r2663 r2664 ([]:LA))) (fun r2686 r2687 r2688 r2689 r2690 r2691 r2692 r2693 r2694 r2695 r2696 r2697 r2698 r2699 r2700 r2701 r2702 r2703 r2704 r2705 r2706 r2707 r2708 r2709=>(j2 a23 a24 r2689 r2690 r2691 r2692 r2693 r2694 r2695 r2696 r2697 r2698 r2699 r2700 r2701 r2702 r2703 r2704 r2705 r2706 r2707 r2708 r2709 r2687 r2688 r2686)))
def je {R:Type} (c1:aA.F R) (c2:az.F R) (c3:bp.F R) (c4:af.F R) (c5:bB.F R) (c6:ay.F R) (c7:ae.F R) (κ0:Q0 R) (κ1:Q1 R):Nat->my R
 | 0=>fun _ _ _ _ _ _ _ _ _ _ _ _ _ _ _ _ _ _ _ _ _ _ _ _=>none
 | f+1=>t15 c3 c4 κ0 κ1
def M5 {R:Type} (c1:aA.F R) (c2:az.F R) (c3:bp.F R) (c4:af.F R) (c5:bB.F R) (c6:ay.F R) (c7:ae.F R) (κ0:Q0 R) (κ1:Q1 R):Nat->(J5 R) × (J8 R) × (Dr R)
 | 0=>(fun _ _ _ _ _ _ _ _ _ _ _ _ _ _ _ _ _ _ _ _ _ _ _ _ _ _ _ _ _=>none,fun _ _ _ _ _ _ _ _ _ _ _ _ _ _ _ _ _ _ _ _ _ _ _ _ _ _ _ _ _ _ _ _ _ _ _ _ _ _ _ _ _ _ _ _ _ _ _ _ _ _ _=>none,fun _ _ _ _ _ _ _ _ _ _ _ _ _ _ _ _ _ _ _ _ _ _ _ _ _ _ _ _ _=>none)
 | f+1=>(t5 c2 ((M5 c1 c2 c3 c4 c5 c6 c7 κ0 κ1 f).2.1) (je c1 c2 c3 c4 c5 c6 c7 κ0 κ1 f),
  t8 c5 c6 c7 ((M5 c1 c2 c3 c4 c5 c6 c7 κ0 κ1 f).2.2),
  t14 ((M5 c1 c2 c3 c4 c5 c6 c7 κ0 κ1 f).1))
def L5 {R:Type} (c1:aA.F R) (c2:az.F R) (c3:bp.F R) (c4:af.F R) (c5:bB.F R) (c6:ay.F R) (c7:ae.F R) (κ0:Q0 R) (κ1:Q1 R) (f:Nat):J5 R:=(M5 c1 c2 c3 c4 c5 c6 c7 κ0 κ1 f).1
def L8 {R:Type} (c1:aA.F R) (c2:az.F R) (c3:bp.F R) (c4:af.F R) (c5:bB.F R) (c6:ay.F R) (c7:ae.F R) (κ0:Q0 R) (κ1:Q1 R) (f:Nat):J8 R:=(M5 c1 c2 c3 c4 c5 c6 c7 κ0 κ1 f).2.1
def EA {R:Type} (c1:aA.F R) (c2:az.F R) (c3:bp.F R) (c4:af.F R) (c5:bB.F R) (c6:ay.F R) (c7:ae.F R) (κ0:Q0 R) (κ1:Q1 R) (f:Nat):Dr R:=(M5 c1 c2 c3 c4 c5 c6 c7 κ0 κ1 f).2.2
def L2 {R:Type} (c1:aA.F R) (c2:az.F R) (c3:bp.F R) (c4:af.F R) (c5:bB.F R) (c6:ay.F R) (c7:ae.F R) (κ0:Q0 R) (κ1:Q1 R):Nat->J2 R
 | 0=>fun _ _ _ _ _ _ _ _ _ _ _ _ _ _ _ _ _ _ _ _ _ _ _ _ _ _=>none
 | f+1=>t2 (L5 c1 c2 c3 c4 c5 c6 c7 κ0 κ1 f) (je c1 c2 c3 c4 c5 c6 c7 κ0 κ1 f)
def B {R:Type} (c1:aA.F R) (c2:az.F R) (c3:bp.F R) (c4:af.F R) (c5:bB.F R) (c6:ay.F R) (c7:ae.F R):F R:=fun a0 a1 a2 a3 a4 a5 a6 a7 a8 a9 a10 a11 a12 a13 a14 a15 a16 a17 a18 a19 a20 a21 a22 a23 a24 κ0 κ1=>e c1 c2 c3 c4 c5 c6 c7 a0 a1 a2 a3 a4 a5 a6 a7 a8 a9 a10 a11 a12 a13 a14 a15 a16 a17 a18 a19 a20 a21 a22 a23 a24 (L2 c1 c2 c3 c4 c5 c6 c7 κ0 κ1 aH) (L5 c1 c2 c3 c4 c5 c6 c7 κ0 κ1 aH) (L8 c1 c2 c3 c4 c5 c6 c7 κ0 κ1 aH) (EA c1 c2 c3 c4 c5 c6 c7 κ0 κ1 aH) (je c1 c2 c3 c4 c5 c6 c7 κ0 κ1 aH) κ0 κ1
def R {R:Type}:Nat->F R
 | 0=>fun _ _ _ _ _ _ _ _ _ _ _ _ _ _ _ _ _ _ _ _ _ _ _ _ _ _ _=>none
 | n+1=>B aA az bp af bB ay (ae.R n)
end ae
def ae {R:Type}:ae.F R:=ae.R aH
abbrev aG.Q0 (R:Type):Type:=BA->BA->BA->LA->Bool->BA->Bool->BA->Bool->BA->Bool->BA->LA->LA->Bool->BA->Int->Int->Int->Int->Int->LA->Option R
abbrev aG.F (R:Type):Type:=BA->aG.Q0 R->Option R
namespace aG
abbrev J4 (R:Type):Type:=BA->BA->BA->Bool->BA->Bool->BA->Bool->BA->Bool->BA->Bool->BA->Int->Int->Int->Int->Int->BA->BA->BA->LA->Bool->BA->Bool->BA->Bool->BA->Bool->BA->LA->LA->Bool->BA->Int->Int->Int->Int->Int->LA->Option R
def t4 {R:Type} (κ0:Q0 R):J4 R :=
 fun x0 x1 x2 x3 x4 x5 x6 x7 x8 x9 x10 x11 x12 x13 x14 x15 x16 x17 x18 x19 x20 x21 x22 x23 x24 x25 x26 x27 x28 x29 x30 x31 x32 x33 x34 x35 x36 x37 x38 x39=>(κ0 x18 x19 x20 x21 x22 x23 x24 x25 x26 x27 x28 x29 x30 x31 x32 x33 x34 x35 x36 x37 x38 x39)
def e {R:Type} (c1:az.F R) (c2:ae.F R) (a0:BA) (j4:J4 R) (κ0:Q0 R):Option R :=
 (c1 a0 0 0 (a0.size:Int) false (fun r311 r312 r313 r314 r315 r316 r317 r318 r319 r320 r321 r322 r323 r324 r325 r326 r327 r328 r329 r330 r331 r332 r333=>(c2 r332 r333 r311 r312 r313 r314 r315 r316 r317 r318 r319 r320 r321 r322 r323 r324 r325 r326 r327 r328 r329 r330 r331 0 false (fun r2896 r2897 r2898 r2899 r2900 r2901 r2902 r2903 r2904 r2905 r2906 r2907 r2908 r2909 r2910 r2911 r2912 r2913 r2914 r2915 r2916 r2917 r2918 r2919=>(j4 (⟨#[]⟩:BA) (⟨#[]⟩:BA) (⟨#[]⟩:BA) false (⟨#[]⟩:BA) false (⟨#[]⟩:BA) false (⟨#[]⟩:BA) false (⟨#[]⟩:BA) false (⟨#[]⟩:BA) 0 0 0 0 0 r2898 r2899 r2900 r2901 r2902 r2903 r2904 r2905 r2906 r2907 r2908 r2909 r2910 r2911 r2912 r2913 r2914 r2915 r2916 r2917 r2918 r2919)) (fun r2920 r2921 r2922 r2923 r2924 r2925 r2926 r2927 r2928 r2929 r2930 r2931 r2932 r2933 r2934 r2935 r2936 r2937 r2938 r2939 r2940 r2941 r2942=>(j4 (⟨#[]⟩:BA) (⟨#[]⟩:BA) (⟨#[]⟩:BA) false (⟨#[]⟩:BA) false (⟨#[]⟩:BA) false (⟨#[]⟩:BA) false (⟨#[]⟩:BA) false (⟨#[]⟩:BA) 0 0 0 0 0 r2922 r2923 r2924 ([]:LA) r2925 r2926 r2927 r2928 r2929 r2930 r2931 r2932 r2933 r2934 r2935 r2936 r2937 r2938 r2939 r2940 r2941 r2942)))))
def L4 {R:Type} (c1:az.F R) (c2:ae.F R) (κ0:Q0 R):Nat->J4 R
 | 0=>fun _ _ _ _ _ _ _ _ _ _ _ _ _ _ _ _ _ _ _ _ _ _ _ _ _ _ _ _ _ _ _ _ _ _ _ _ _ _ _ _=>none
 | f+1=>t4 κ0
end aG
def aG {R:Type}:aG.F R:=fun a0 κ0=>aG.e az ae a0 (aG.L4 az ae κ0 aH) κ0
abbrev cD.F (R:Type):Type:=BA->Int->Int->(BA->Option R)->Option R
namespace cD
def e {R:Type} (a0:BA) (a1:Int) (a2:Int) (κ0:BA->Option R):Option R :=
 (bif (decide (a1<(0:Int))) then (κ0 (⟨#[]⟩:BA)) else (bif (decide (a2<(0:Int))) then (κ0 (⟨#[]⟩:BA)) else (bif (decide (a1>(a0.size:Int))) then (κ0 (⟨#[]⟩:BA)) else (bW ((decide ((0:Int)<=a1))&&((decide (a1<=(IntKind.wrap .i64 (a1+(min2 a2 (IntKind.wrap .i64 ((a0.size:Int)-a1)))))))&&(decide ((IntKind.wrap .i64 (a1+(min2 a2 (IntKind.wrap .i64 ((a0.size:Int)-a1)))))<=(a0.size:Int))))) (κ0 (a0.extract (a1).toNat ((IntKind.wrap .i64 (a1+(min2 a2 (IntKind.wrap .i64 ((a0.size:Int)-a1)))))).toNat))))))
end cD
def cD {R:Type}:cD.F R:=fun a0 a1 a2 κ0=>cD.e a0 a1 a2 κ0
abbrev aV.F (R:Type):Type:=(Bool->Option R)->Option R
namespace aV
def e {R:Type} (c1:aG.F R) (c2:cD.F R) (κ0:Bool->Option R):Option R :=
 (c1 (⟨#[67,111,110,116,101,110,116,45,84,121,112,101,58,32,109,117,108,116,105,112,97,114,116,47,109,105,120,101,100,59,32,98,111,117,110,100,97,114,121,61,98,13,10,13,10,45,45,98,13,10,13,10,111,110,101,13,10,45,45,98,45,45,13,10]⟩:BA) (fun r2943 r2944 r2945 r2946 r2947 r2948 r2949 r2950 r2951 r2952 r2953 r2954 r2955 r2956 r2957 r2958 r2959 r2960 r2961 r2962 r2963 r2964=>(bif (decide (r2944=(⟨#[109,117,108,116,105,112,97,114,116]⟩:BA))) then (bif ((r2964.length:Int) == 1) then (bW (decide ((0:Int)<(r2964.length:Int))) (bif (decide (((bZ r2964 0).fld 0).s=(⟨#[49]⟩:BA))) then (bW (decide ((0:Int)<(r2964.length:Int))) (bif (decide (((bZ r2964 0).fld 1).s=(⟨#[116,101,120,116]⟩:BA))) then (bW (decide ((0:Int)<(r2964.length:Int))) (bif ((((bZ r2964 0).fld 18).i == 52)&&((((bZ r2964 0).fld 19).i == 55)&&true)) then (c2 (⟨#[104,101,108,108,111]⟩:BA) 1 3 (fun r2965=>(κ0 (decide (r2965=(⟨#[101,108,108]⟩:BA)))))) else (κ0 false))) else (κ0 false))) else (κ0 false))) else (κ0 false)) else (κ0 false))))
end aV
def aV {R:Type}:aV.F R:=fun κ0=>aV.e aG cD κ0
abbrev aK.F (R:Type):Type:=BA->(BA->Option R)->Option R
namespace aK
abbrev J3 (R:Type):Type:=BA->Int->LA->Option R
def t3 {R:Type} (j3:J3 R) (κ0:BA->Option R):J3 R :=
 fun x0 x1 x2=>(bif (decide (x1<(x0.size:Int))) then (bif (decide (x1<(300:Int))) then (bW ((decide ((0:Int)<=x1))&&(decide (x1<(x0.size:Int)))) (bif ((ed x0 x1) != 45) then (bW ((decide ((0:Int)<=x1))&&(decide (x1<(x0.size:Int)))) (bif ((ed x0 x1) != 13) then (bW ((decide ((0:Int)<=x1))&&(decide (x1<(x0.size:Int)))) (bif ((ed x0 x1) != 10) then (bW ((decide ((0:Int)<=x1))&&(decide (x1<(x0.size:Int)))) (bW (decide ((x2.length+1)*1<=140737488355328)) (j3 x0 (IntKind.wrap .i64 (x1+1)) (x2++[AV.int (ed x0 x1)])))) else (j3 x0 (IntKind.wrap .i64 (x1+1)) x2))) else (j3 x0 (IntKind.wrap .i64 (x1+1)) x2))) else (j3 x0 (IntKind.wrap .i64 (x1+1)) x2))) else (κ0 (cY x2))) else (κ0 (cY x2)))
def e {R:Type} (a0:BA) (j3:J3 R) (κ0:BA->Option R):Option R :=
 (j3 a0 0 ([]:LA))
def L3 {R:Type} (κ0:BA->Option R):Nat->J3 R
 | 0=>fun _ _ _=>none
 | f+1=>t3 (L3 κ0 f) κ0
end aK
def aK {R:Type}:aK.F R:=fun a0 κ0=>aK.e a0 (aK.L3 κ0 aH) κ0
abbrev aP.F (R:Type):Type:=BA->(Bool->Option R)->Option R
namespace aP
def t2 {R:Type} (j2:BA->Int->Option R) (κ0:Bool->Option R):BA->Int->Option R :=
 fun x0 x1=>(bif (decide (x1<(x0.size:Int))) then (bW ((decide ((0:Int)<=x1))&&(decide (x1<(x0.size:Int)))) (bif (decide ((ed x0 x1)<(97:Int))) then (bif (decide ((ed x0 x1)<(48:Int))) then (κ0 false) else (bif (decide ((ed x0 x1)>(57:Int))) then (κ0 false) else (j2 x0 (IntKind.wrap .i64 (x1+1))))) else (bif (decide ((ed x0 x1)>(122:Int))) then (bif (decide ((ed x0 x1)<(48:Int))) then (κ0 false) else (bif (decide ((ed x0 x1)>(57:Int))) then (κ0 false) else (j2 x0 (IntKind.wrap .i64 (x1+1))))) else (j2 x0 (IntKind.wrap .i64 (x1+1)))))) else (κ0 true))
def e {R:Type} (a0:BA) (j2:BA->Int->Option R) (κ0:Bool->Option R):Option R :=
 (j2 a0 0)
def L2 {R:Type} (κ0:Bool->Option R):Nat->BA->Int->Option R
 | 0=>fun _ _=>none
 | f+1=>t2 (L2 κ0 f) κ0
end aP
def aP {R:Type}:aP.F R:=fun a0 κ0=>aP.e a0 (aP.L2 κ0 aH) κ0
abbrev bX.F (R:Type):Type:=BA->(Int->Option R)->Option R
namespace bX
abbrev J3 (R:Type):Type:=BA->Int->Int->Int->Option R
def t3 {R:Type} (j3:J3 R) (κ0:Int->Option R):J3 R :=
 fun x0 x1 x2 x3=>(bif (decide (x3<x2)) then (bW ((decide ((0:Int)<=x3))&&(decide (x3<(x0.size:Int)))) (bif (decide ((ed x0 x3)<(48:Int))) then (κ0 0) else (bW ((decide ((0:Int)<=x3))&&(decide (x3<(x0.size:Int)))) (bif (decide ((ed x0 x3)>(57:Int))) then (κ0 0) else (bif (x3 == 0) then (bW ((decide ((0:Int)<=x3))&&(decide (x3<(x0.size:Int)))) (bif ((ed x0 x3) == 48) then (κ0 0) else (bif (decide (x1>(4294967295:Int))) then (κ0 0) else (bW ((decide ((0:Int)<=x3))&&(decide (x3<(x0.size:Int)))) (j3 x0 (IntKind.wrap .i64 ((IntKind.wrap .i64 (x1*10))+(IntKind.wrap .i64 (IntKind.wrap .u8 ((ed x0 x3)-48))))) x2 (IntKind.wrap .i64 (x3+1))))))) else (bif (decide (x1>(4294967295:Int))) then (κ0 0) else (bW ((decide ((0:Int)<=x3))&&(decide (x3<(x0.size:Int)))) (j3 x0 (IntKind.wrap .i64 ((IntKind.wrap .i64 (x1*10))+(IntKind.wrap .i64 (IntKind.wrap .u8 ((ed x0 x3)-48))))) x2 (IntKind.wrap .i64 (x3+1)))))))))) else (κ0 x1))
def e {R:Type} (a0:BA) (j3:J3 R) (κ0:Int->Option R):Option R :=
 (j3 a0 0 (a0.size:Int) 0)
def L3 {R:Type} (κ0:Int->Option R):Nat->J3 R
 | 0=>fun _ _ _ _=>none
 | f+1=>t3 (L3 κ0 f) κ0
end bX
def bX {R:Type}:bX.F R:=fun a0 κ0=>bX.e a0 (bX.L3 κ0 aH) κ0
abbrev bm.Q0 (R:Type):Type:=BA->BA->BA->Bool->BA->Bool->BA->Bool->BA->Bool->BA->Bool->BA->Int->Int->Int->Int->Int->Bool->Option R
abbrev bm.Q1 (R:Type):Type:=BA->BA->BA->LA->Bool->BA->Bool->BA->Bool->BA->Bool->BA->LA->LA->Bool->BA->Int->Int->Int->Int->Int->LA->Bool->Option R
abbrev bm.F (R:Type):Type:=BA->BA->BA->LA->Bool->BA->Bool->BA->Bool->BA->Bool->BA->LA->LA->Bool->BA->Int->Int->Int->Int->Int->LA->Bool->Int->bm.Q0 R->bm.Q1 R->Option R
namespace bm
abbrev J3 (R:Type):Type:=Bool->Int->BA->BA->BA->LA->Bool->BA->Bool->BA->Bool->BA->Bool->BA->LA->LA->Bool->BA->Int->Int->Int->Int->Int->LA->BA->BA->BA->Bool->BA->Bool->BA->Bool->BA->Bool->BA->Bool->BA->Int->Int->Int->Int->Int->Option R
def t3 {R:Type} (κ0:Q0 R) (κ1:Q1 R):J3 R :=
 fun x0 x1 x2 x3 x4 x5 x6 x7 x8 x9 x10 x11 x12 x13 x14 x15 x16 x17 x18 x19 x20 x21 x22 x23 x24 x25 x26 x27 x28 x29 x30 x31 x32 x33 x34 x35 x36 x37 x38 x39 x40 x41=>(bif (decide (x3=(⟨#[109,117,108,116,105,112,97,114,116]⟩:BA))) then (bif (decide ((x23.length:Int)>(0:Int))) then (bif (decide (x1<(1:Int))) then (κ0 (⟨#[]⟩:BA) (⟨#[]⟩:BA) (⟨#[]⟩:BA) false (⟨#[]⟩:BA) false (⟨#[]⟩:BA) false (⟨#[]⟩:BA) false (⟨#[]⟩:BA) false (⟨#[]⟩:BA) 0 0 0 0 0 false) else (bif (decide (x1>(x23.length:Int))) then (κ0 (⟨#[]⟩:BA) (⟨#[]⟩:BA) (⟨#[]⟩:BA) false (⟨#[]⟩:BA) false (⟨#[]⟩:BA) false (⟨#[]⟩:BA) false (⟨#[]⟩:BA) false (⟨#[]⟩:BA) 0 0 0 0 0 false) else (bW ((decide ((0:Int)<=(IntKind.wrap .i64 (x1-1))))&&(decide ((IntKind.wrap .i64 (x1-1))<(x23.length:Int)))) (κ1 ((bZ x23 (IntKind.wrap .i64 (x1-1))).fld 0).s ((bZ x23 (IntKind.wrap .i64 (x1-1))).fld 1).s ((bZ x23 (IntKind.wrap .i64 (x1-1))).fld 2).s ((bZ x23 (IntKind.wrap .i64 (x1-1))).fld 3).l ((bZ x23 (IntKind.wrap .i64 (x1-1))).fld 4).b ((bZ x23 (IntKind.wrap .i64 (x1-1))).fld 5).s ((bZ x23 (IntKind.wrap .i64 (x1-1))).fld 6).b ((bZ x23 (IntKind.wrap .i64 (x1-1))).fld 7).s ((bZ x23 (IntKind.wrap .i64 (x1-1))).fld 8).b ((bZ x23 (IntKind.wrap .i64 (x1-1))).fld 9).s ((bZ x23 (IntKind.wrap .i64 (x1-1))).fld 10).b ((bZ x23 (IntKind.wrap .i64 (x1-1))).fld 11).s ((bZ x23 (IntKind.wrap .i64 (x1-1))).fld 12).l ((bZ x23 (IntKind.wrap .i64 (x1-1))).fld 13).l ((bZ x23 (IntKind.wrap .i64 (x1-1))).fld 14).b ((bZ x23 (IntKind.wrap .i64 (x1-1))).fld 15).s ((bZ x23 (IntKind.wrap .i64 (x1-1))).fld 16).i ((bZ x23 (IntKind.wrap .i64 (x1-1))).fld 17).i ((bZ x23 (IntKind.wrap .i64 (x1-1))).fld 18).i ((bZ x23 (IntKind.wrap .i64 (x1-1))).fld 19).i ((bZ x23 (IntKind.wrap .i64 (x1-1))).fld 20).i ((bZ x23 (IntKind.wrap .i64 (x1-1))).fld 21).l true)))) else (bif x0 then (κ1 x2 x3 x4 x5 x6 x7 x8 x9 x10 x11 x12 x13 x14 x15 x16 x17 x18 x19 x20 x21 x22 x23 (x1 == 1)) else (κ1 x2 x3 x4 x5 x6 x7 x8 x9 x10 x11 x12 x13 x14 x15 x16 x17 x18 x19 x20 x21 x22 x23 false))) else (bif x0 then (κ1 x2 x3 x4 x5 x6 x7 x8 x9 x10 x11 x12 x13 x14 x15 x16 x17 x18 x19 x20 x21 x22 x23 (x1 == 1)) else (κ1 x2 x3 x4 x5 x6 x7 x8 x9 x10 x11 x12 x13 x14 x15 x16 x17 x18 x19 x20 x21 x22 x23 false)))
def e {R:Type} (c1:af.F R) (c2:bm.F R) (a0:BA) (a1:BA) (a2:BA) (a3:LA) (a4:Bool) (a5:BA) (a6:Bool) (a7:BA) (a8:Bool) (a9:BA) (a10:Bool) (a11:BA) (a12:LA) (a13:LA) (a14:Bool) (a15:BA) (a16:Int) (a17:Int) (a18:Int) (a19:Int) (a20:Int) (a21:LA) (a22:Bool) (a23:Int) (j3:J3 R) (κ0:Q0 R) (κ1:Q1 R):Option R :=
 (bif (!a22) then (c1 a0 a1 a2 a3 a4 a5 a6 a7 a8 a9 a10 a11 a12 a13 a14 a15 a16 a17 a18 a19 a20 a21 (fun r3181 r3182 r3183 r3184 r3185 r3186 r3187 r3188 r3189 r3190 r3191 r3192 r3193 r3194 r3195 r3196 r3197 r3198 r3199 r3200 r3201 r3202 r3203=>(bif r3181 then (bif (decide ((r3203.length:Int)>(0:Int))) then (bW (decide ((0:Int)<(r3203.length:Int))) (c2 ((bZ r3203 0).fld 0).s ((bZ r3203 0).fld 1).s ((bZ r3203 0).fld 2).s ((bZ r3203 0).fld 3).l ((bZ r3203 0).fld 4).b ((bZ r3203 0).fld 5).s ((bZ r3203 0).fld 6).b ((bZ r3203 0).fld 7).s ((bZ r3203 0).fld 8).b ((bZ r3203 0).fld 9).s ((bZ r3203 0).fld 10).b ((bZ r3203 0).fld 11).s ((bZ r3203 0).fld 12).l ((bZ r3203 0).fld 13).l ((bZ r3203 0).fld 14).b ((bZ r3203 0).fld 15).s ((bZ r3203 0).fld 16).i ((bZ r3203 0).fld 17).i ((bZ r3203 0).fld 18).i ((bZ r3203 0).fld 19).i ((bZ r3203 0).fld 20).i ((bZ r3203 0).fld 21).l true a23 (fun r3204 r3205 r3206 r3207 r3208 r3209 r3210 r3211 r3212 r3213 r3214 r3215 r3216 r3217 r3218 r3219 r3220 r3221 r3222=>(κ0 r3204 r3205 r3206 r3207 r3208 r3209 r3210 r3211 r3212 r3213 r3214 r3215 r3216 r3217 r3218 r3219 r3220 r3221 r3222)) (fun r3223 r3224 r3225 r3226 r3227 r3228 r3229 r3230 r3231 r3232 r3233 r3234 r3235 r3236 r3237 r3238 r3239 r3240 r3241 r3242 r3243 r3244 r3245=>(κ1 r3223 r3224 r3225 r3226 r3227 r3228 r3229 r3230 r3231 r3232 r3233 r3234 r3235 r3236 r3237 r3238 r3239 r3240 r3241 r3242 r3243 r3244 r3245)))) else (j3 a22 a23 r3182 r3183 r3184 r3185 r3186 r3187 r3188 r3189 r3190 r3191 r3192 r3193 r3194 r3195 r3196 r3197 r3198 r3199 r3200 r3201 r3202 r3203 (⟨#[]⟩:BA) (⟨#[]⟩:BA) (⟨#[]⟩:BA) false (⟨#[]⟩:BA) false (⟨#[]⟩:BA) false (⟨#[]⟩:BA) false (⟨#[]⟩:BA) false (⟨#[]⟩:BA) 0 0 0 0 0)) else (j3 a22 a23 r3182 r3183 r3184 r3185 r3186 r3187 r3188 r3189 r3190 r3191 r3192 r3193 r3194 r3195 r3196 r3197 r3198 r3199 r3200 r3201 r3202 r3203 (⟨#[]⟩:BA) (⟨#[]⟩:BA) (⟨#[]⟩:BA) false (⟨#[]⟩:BA) false (⟨#[]⟩:BA) false (⟨#[]⟩:BA) false (⟨#[]⟩:BA) false (⟨#[]⟩:BA) 0 0 0 0 0)))) else (j3 a22 a23 a0 a1 a2 a3 a4 a5 a6 a7 a8 a9 a10 a11 a12 a13 a14 a15 a16 a17 a18 a19 a20 a21 (⟨#[]⟩:BA) (⟨#[]⟩:BA) (⟨#[]⟩:BA) false (⟨#[]⟩:BA) false (⟨#[]⟩:BA) false (⟨#[]⟩:BA) false (⟨#[]⟩:BA) false (⟨#[]⟩:BA) 0 0 0 0 0))
def L3 {R:Type} (c1:af.F R) (c2:bm.F R) (κ0:Q0 R) (κ1:Q1 R):Nat->J3 R
 | 0=>fun _ _ _ _ _ _ _ _ _ _ _ _ _ _ _ _ _ _ _ _ _ _ _ _ _ _ _ _ _ _ _ _ _ _ _ _ _ _ _ _ _ _=>none
 | f+1=>t3 κ0 κ1
def B {R:Type} (c1:af.F R) (c2:bm.F R):F R:=fun a0 a1 a2 a3 a4 a5 a6 a7 a8 a9 a10 a11 a12 a13 a14 a15 a16 a17 a18 a19 a20 a21 a22 a23 κ0 κ1=>e c1 c2 a0 a1 a2 a3 a4 a5 a6 a7 a8 a9 a10 a11 a12 a13 a14 a15 a16 a17 a18 a19 a20 a21 a22 a23 (L3 c1 c2 κ0 κ1 aH) κ0 κ1
def R {R:Type}:Nat->F R
 | 0=>fun _ _ _ _ _ _ _ _ _ _ _ _ _ _ _ _ _ _ _ _ _ _ _ _ _ _=>none
 | n+1=>B af (bm.R n)
end bm
def bm {R:Type}:bm.F R:=bm.R aH
abbrev ck.F (R:Type):Type:=BA->BA->BA->LA->Bool->BA->Bool->BA->Bool->BA->Bool->BA->LA->LA->Bool->BA->Int->Int->Int->Int->Int->LA->BA->(BA->BA->BA->Bool->BA->Bool->BA->Bool->BA->Bool->BA->Bool->BA->Int->Int->Int->Int->Int->Bool->Option R)->(BA->BA->BA->LA->Bool->BA->Bool->BA->Bool->BA->Bool->BA->LA->LA->Bool->BA->Int->Int->Int->Int->Int->LA->Bool->Option R)->Option R
namespace ck
abbrev J (R:Type):Type:=BA->BA->BA->BA->LA->Bool->BA->Bool->BA->Bool->BA->Bool->BA->LA->LA->Bool->BA->Int->Int->Int->Int->Int->LA->Option R
def b {R:Type} (c1:bX.F R) (c2:bm.F R) (κ0:BA->BA->BA->Bool->BA->Bool->BA->Bool->BA->Bool->BA->Bool->BA->Int->Int->Int->Int->Int->Bool->Option R) (k:BA->BA->BA->LA->Bool->BA->Bool->BA->Bool->BA->Bool->BA->LA->LA->Bool->BA->Int->Int->Int->Int->Int->LA->Option R) (p:BA) (x0:BA) (x1:BA) (x2:BA) (x3:LA) (x4:Bool) (x5:BA) (x6:Bool) (x7:BA) (x8:Bool) (x9:BA) (x10:Bool) (x11:BA) (x12:LA) (x13:LA) (x14:Bool) (x15:BA) (x16:Int) (x17:Int) (x18:Int) (x19:Int) (x20:Int) (x21:LA) (i:Bool):Option R :=
 c1 p (fun n=>(bif (n == 0) then (κ0 (⟨#[]⟩:BA) (⟨#[]⟩:BA) (⟨#[]⟩:BA) false (⟨#[]⟩:BA) false (⟨#[]⟩:BA) false (⟨#[]⟩:BA) false (⟨#[]⟩:BA) false (⟨#[]⟩:BA) 0 0 0 0 0 false) else (c2 x0 x1 x2 x3 x4 x5 x6 x7 x8 x9 x10 x11 x12 x13 x14 x15 x16 x17 x18 x19 x20 x21 i n (fun y0 y1 y2 y3 y4 y5 y6 y7 y8 y9 y10 y11 y12 y13 y14 y15 y16 y17 y18=>(bif (!y18) then (κ0 (⟨#[]⟩:BA) (⟨#[]⟩:BA) (⟨#[]⟩:BA) false (⟨#[]⟩:BA) false (⟨#[]⟩:BA) false (⟨#[]⟩:BA) false (⟨#[]⟩:BA) false (⟨#[]⟩:BA) 0 0 0 0 0 false) else none)) (fun y0 y1 y2 y3 y4 y5 y6 y7 y8 y9 y10 y11 y12 y13 y14 y15 y16 y17 y18 y19 y20 y21 y22=>(bif (!y22) then (κ0 (⟨#[]⟩:BA) (⟨#[]⟩:BA) (⟨#[]⟩:BA) false (⟨#[]⟩:BA) false (⟨#[]⟩:BA) false (⟨#[]⟩:BA) false (⟨#[]⟩:BA) false (⟨#[]⟩:BA) 0 0 0 0 0 false) else (k y0 y1 y2 y3 y4 y5 y6 y7 y8 y9 y10 y11 y12 y13 y14 y15 y16 y17 y18 y19 y20 y21))))))
def t {R:Type} (c1:bX.F R) (c2:bm.F R) (c3:aE.F R) (κ0:BA->BA->BA->Bool->BA->Bool->BA->Bool->BA->Bool->BA->Bool->BA->Int->Int->Int->Int->Int->Bool->Option R) (κ1:BA->BA->BA->LA->Bool->BA->Bool->BA->Bool->BA->Bool->BA->LA->LA->Bool->BA->Int->Int->Int->Int->Int->LA->Bool->Option R) (q:BA) (j:J R) (p:BA) (x0:BA) (x1:BA) (x2:BA) (x3:LA) (x4:Bool) (x5:BA) (x6:Bool) (x7:BA) (x8:Bool) (x9:BA) (x10:Bool) (x11:BA) (x12:LA) (x13:LA) (x14:Bool) (x15:BA) (x16:Int) (x17:Int) (x18:Int) (x19:Int) (x20:Int) (x21:LA) (i:Bool):Option R :=
 c3 p (⟨#[46]⟩:BA) (fun n=>(bif (decide (n<0)) then (b c1 c2 κ0 (fun y0 y1 y2 y3 y4 y5 y6 y7 y8 y9 y10 y11 y12 y13 y14 y15 y16 y17 y18 y19 y20 y21=>κ1 q y1 y2 y3 y4 y5 y6 y7 y8 y9 y10 y11 y12 y13 y14 y15 y16 y17 y18 y19 y20 y21 true) p x0 x1 x2 x3 x4 x5 x6 x7 x8 x9 x10 x11 x12 x13 x14 x15 x16 x17 x18 x19 x20 x21 i) else (bW (decide (n+1<=(p.size:Int))) (b c1 c2 κ0 (j (p.extract (n.toNat+1) p.size)) (p.extract 0 n.toNat) x0 x1 x2 x3 x4 x5 x6 x7 x8 x9 x10 x11 x12 x13 x14 x15 x16 x17 x18 x19 x20 x21 i))))
def L {R:Type} (c1:bX.F R) (c2:bm.F R) (c3:aE.F R) (κ0:BA->BA->BA->Bool->BA->Bool->BA->Bool->BA->Bool->BA->Bool->BA->Int->Int->Int->Int->Int->Bool->Option R) (κ1:BA->BA->BA->LA->Bool->BA->Bool->BA->Bool->BA->Bool->BA->LA->LA->Bool->BA->Int->Int->Int->Int->Int->LA->Bool->Option R) (q:BA):Nat->Bool->J R
 | 0=>fun _ _ _ _ _ _ _ _ _ _ _ _ _ _ _ _ _ _ _ _ _ _ _ _=>none
 | f+1=>fun i p x0 x1 x2 x3 x4 x5 x6 x7 x8 x9 x10 x11 x12 x13 x14 x15 x16 x17 x18 x19 x20 x21=>t c1 c2 c3 κ0 κ1 q (L c1 c2 c3 κ0 κ1 q f false) p x0 x1 x2 x3 x4 x5 x6 x7 x8 x9 x10 x11 x12 x13 x14 x15 x16 x17 x18 x19 x20 x21 i
end ck
def ck {R:Type}:ck.F R:=fun a0 a1 a2 a3 a4 a5 a6 a7 a8 a9 a10 a11 a12 a13 a14 a15 a16 a17 a18 a19 a20 a21 a22 κ0 κ1 =>
 (bif (decide (a22=(⟨#[]⟩:BA))) then (κ1 a0 a1 a2 a3 a4 a5 a6 a7 a8 a9 a10 a11 a12 a13 a14 a15 a16 a17 a18 a19 a20 a21 true) else (bW (decide (a22.size<281474976710656)) (ck.L bX bm aE κ0 κ1 a22 aH true a22 a0 a1 a2 a3 a4 a5 a6 a7 a8 a9 a10 a11 a12 a13 a14 a15 a16 a17 a18 a19 a20 a21)))
abbrev bC.Q0 (R:Type):Type:=Bool->BA->BA->BA->Bool->BA->Bool->BA->Bool->BA->Bool->BA->Bool->BA->Int->Int->Int->Int->Int->Option R
abbrev bC.F (R:Type):Type:=BA->BA->BA->Bool->BA->Bool->BA->Bool->BA->Bool->BA->Bool->BA->Int->Int->Int->Int->Int->bC.Q0 R->Option R
namespace bC
def e {R:Type} (a0:BA) (a1:BA) (a2:BA) (a3:Bool) (a4:BA) (a5:Bool) (a6:BA) (a7:Bool) (a8:BA) (a9:Bool) (a10:BA) (a11:Bool) (a12:BA) (a13:Int) (a14:Int) (a15:Int) (a16:Int) (a17:Int) (κ0:Q0 R):Option R :=
 (bif (decide (a1=(⟨#[109,101,115,115,97,103,101]⟩:BA))) then (κ0 (decide (a2=(⟨#[114,102,99,56,50,50]⟩:BA))) a0 a1 a2 a3 a4 a5 a6 a7 a8 a9 a10 a11 a12 a13 a14 a15 a16 a17) else (κ0 false a0 a1 a2 a3 a4 a5 a6 a7 a8 a9 a10 a11 a12 a13 a14 a15 a16 a17))
end bC
def bC {R:Type}:bC.F R:=fun a0 a1 a2 a3 a4 a5 a6 a7 a8 a9 a10 a11 a12 a13 a14 a15 a16 a17 κ0=>bC.e a0 a1 a2 a3 a4 a5 a6 a7 a8 a9 a10 a11 a12 a13 a14 a15 a16 a17 κ0
abbrev cA.F (R:Type):Type:=BA->Int->Int->(BA->Bool->Option R)->Option R
namespace cA
def e {R:Type} (a0:BA) (a1:Int) (a2:Int) (κ0:BA->Bool->Option R):Option R :=
 (bif (decide (a1<(0:Int))) then (κ0 (⟨#[]⟩:BA) false) else (bif (decide (a2<a1)) then (κ0 (⟨#[]⟩:BA) false) else (bif (decide (a2>(a0.size:Int))) then (κ0 (⟨#[]⟩:BA) false) else (bW ((decide ((0:Int)<=a1))&&((decide (a1<=a2))&&(decide (a2<=(a0.size:Int))))) (κ0 (a0.extract (a1).toNat (a2).toNat) true)))))
end cA
def cA {R:Type}:cA.F R:=fun a0 a1 a2 κ0=>cA.e a0 a1 a2 κ0
abbrev bF.F (R:Type):Type:=BA->BA->(Bool->Option R)->Option R
namespace bF
def e {R:Type} (c1:bz.F R) (a0:BA) (a1:BA) (κ0:Bool->Option R):Option R :=
 (c1 a0 a1 (fun r3298=>(κ0 r3298)))
end bF
def bF {R:Type}:bF.F R:=fun a0 a1 κ0=>bF.e bz a0 a1 κ0
abbrev aC.F (R:Type):Type:=LA->BA->(Int->LA->Option R)->Option R
namespace aC
def e {R:Type} (c1:bi.F R) (a0:LA) (a1:BA) (κ0:Int->LA->Option R):Option R :=
 (c1 a0 (fun r3300=>(bW (decide ((r3300.length+(dB a1).length)*1<=140737488355328)) (κ0 (a1.size:Int) (r3300++(dB a1))))))
end aC
def aC {R:Type}:aC.F R:=fun a0 a1 κ0=>aC.e bi a0 a1 κ0
abbrev cF.F (R:Type):Type:=BA->Bool->(BA->Option R)->Option R
namespace cF
abbrev J3 (R:Type):Type:=Bool->Int->Int->LA->LA->Option R
abbrev J7 (R:Type):Type:=Bool->Bool->Int->Int->Int->Int->LA->BA->BA->Bool->Bool->LA->Option R
def t3 {R:Type} (c2:aC.F R) (c3:aq.F R) (j7:J7 R) (κ0:BA->Option R):J3 R :=
 fun x0 x1 x2 x3 x4=>(bif (decide (x2<x1)) then (bW ((decide ((0:Int)<=x2))&&(decide (x2<(x4.length:Int)))) (j7 x0 false x1 x2 0 0 x3 ((bZ x4 x2).fld 0).s ((bZ x4 x2).fld 1).s ((bZ x4 x2).fld 2).b ((bZ x4 x2).fld 3).b x4)) else (c2 x3 (⟨#[13,10]⟩:BA) (fun r3304 r3305=>(c3 r3305 (fun r3306=>(κ0 r3306))))))
def t7 {R:Type} (c2:aC.F R) (c4:bF.F R) (j3:J3 R):J7 R :=
 fun x0 x1 x2 x3 x4 x5 x6 x7 x8 x9 x10 x11=>(bif (decide (x5<x4)) then none else (bif (x1 == x0) then (j3 x0 x2 (IntKind.wrap .i64 (x3+1)) x6 x11) else (c2 x6 x7 (fun r3307 r3308=>(c4 x7 (⟨#[13,10]⟩:BA) (fun r3309=>(bif (!r3309) then (c2 r3308 (⟨#[13,10]⟩:BA) (fun r3310 r3311=>(j3 x0 x2 (IntKind.wrap .i64 (x3+1)) r3311 x11))) else (j3 x0 x2 (IntKind.wrap .i64 (x3+1)) r3308 x11))))))))
def e {R:Type} (c1:bj.F R) (c2:aC.F R) (c3:aq.F R) (c4:bF.F R) (a0:BA) (a1:Bool) (j3:J3 R) (j7:J7 R) (κ0:BA->Option R):Option R :=
 (c1 a0 (fun r3303=>(j3 a1 (r3303.length:Int) 0 ([]:LA) r3303)))
def M3 {R:Type} (c1:bj.F R) (c2:aC.F R) (c3:aq.F R) (c4:bF.F R) (κ0:BA->Option R):Nat->(J3 R) × (J7 R)
 | 0=>(fun _ _ _ _ _=>none,fun _ _ _ _ _ _ _ _ _ _ _ _=>none)
 | f+1=>(t3 c2 c3 ((M3 c1 c2 c3 c4 κ0 f).2) κ0,
  t7 c2 c4 ((M3 c1 c2 c3 c4 κ0 f).1))
def L3 {R:Type} (c1:bj.F R) (c2:aC.F R) (c3:aq.F R) (c4:bF.F R) (κ0:BA->Option R) (f:Nat):J3 R:=(M3 c1 c2 c3 c4 κ0 f).1
def L7 {R:Type} (c1:bj.F R) (c2:aC.F R) (c3:aq.F R) (c4:bF.F R) (κ0:BA->Option R) (f:Nat):J7 R:=(M3 c1 c2 c3 c4 κ0 f).2
end cF
def cF {R:Type}:cF.F R:=fun a0 a1 κ0=>cF.e bj aC aq bF a0 a1 (cF.L3 bj aC aq bF κ0 aH) (cF.L7 bj aC aq bF κ0 aH) κ0
abbrev ao.F (R:Type):Type:=BA->BA->BA->BA->LA->Bool->BA->Bool->BA->Bool->BA->Bool->BA->LA->LA->Bool->BA->Int->Int->Int->Int->Int->LA->BA->Int->(BA->Bool->Option R)->Option R
namespace ao
abbrev x' (R:Type):Type:=BA->Int->BA->Int->BA->BA->BA->LA->Bool->BA->Bool->BA->Bool->BA->Bool->BA->LA->LA->Bool->BA->Int->Int->Int->Int->Int->LA->BA->BA->BA->LA->Bool->BA->Bool->BA->Bool->BA->Bool->BA->LA->LA->Bool->BA->Int->Int->Int->Int->Int->LA->Option R
def t10 {R:Type} (c4:cA.F R) (c5:cF.F R) (κ0:BA->Bool->Option R):x' R :=
 fun x0 x1 x2 x3 x4 x5 x6 x7 x8 x9 x10 x11 x12 x13 x14 x15 x16 x17 x18 x19 x20 x21 x22 x23 x24 x25 x26 x27 x28 x29 x30 x31 x32 x33 x34 x35 x36 x37 x38 x39 x40 x41 x42 x43 x44 x45 x46 x47=>(bif (x1 == 0) then (bif (decide (x2=(⟨#[]⟩:BA))) then (κ0 x0 true) else (c4 x0 x22 x23 (fun r3616 r3617=>(κ0 r3616 r3617)))) else (bif (x1 == 1) then (c4 x0 x42 x43 (fun r3618 r3619=>(κ0 r3618 r3619))) else (bif (x1 == 4) then (c4 x0 x44 x45 (fun r3620 r3621=>(κ0 r3620 r3621))) else (bif (x1 == 2) then (c4 x0 x42 x43 (fun r3622 r3623=>(bif (!r3623) then (κ0 (⟨#[]⟩:BA) false) else (c5 r3622 (x3 == 3) (fun r3624=>(κ0 r3624 true)))))) else (bif (x1 == 3) then (c4 x0 x42 x43 (fun r3625 r3626=>(bif (!r3626) then (κ0 (⟨#[]⟩:BA) false) else (c5 r3625 (x3 == 3) (fun r3627=>(κ0 r3627 true)))))) else (bif (x1 == 5) then (bif (!decide (x2=(⟨#[]⟩:BA))) then (c4 x0 x20 x21 (fun r3628 r3629=>(κ0 r3628 r3629))) else (κ0 (⟨#[]⟩:BA) false)) else (κ0 (⟨#[]⟩:BA) false)))))))
def e {R:Type} (c1:ck.F R) (c2:bC.F R) (c3:af.F R) (c4:cA.F R) (c5:cF.F R) (a0:BA) (a1:BA) (a2:BA) (a3:BA) (a4:LA) (a5:Bool) (a6:BA) (a7:Bool) (a8:BA) (a9:Bool) (a10:BA) (a11:Bool) (a12:BA) (a13:LA) (a14:LA) (a15:Bool) (a16:BA) (a17:Int) (a18:Int) (a19:Int) (a20:Int) (a21:Int) (a22:LA) (a23:BA) (a24:Int) (j10:x' R) (κ0:BA->Bool->Option R):Option R :=
 (c1 a1 a2 a3 a4 a5 a6 a7 a8 a9 a10 a11 a12 a13 a14 a15 a16 a17 a18 a19 a20 a21 a22 a23 (fun r3532 r3533 r3534 r3535 r3536 r3537 r3538 r3539 r3540 r3541 r3542 r3543 r3544 r3545 r3546 r3547 r3548 r3549 r3550=>(bif (!r3550) then (κ0 (⟨#[]⟩:BA) false) else (bif (!decide (a23=(⟨#[]⟩:BA))) then (bif (a24 != 0) then (bif (a24 != 5) then (c2 r3532 r3533 r3534 r3535 r3536 r3537 r3538 r3539 r3540 r3541 r3542 r3543 r3544 r3545 r3546 r3547 r3548 r3549 (fun r3551 r3552 r3553 r3554 r3555 r3556 r3557 r3558 r3559 r3560 r3561 r3562 r3563 r3564 r3565 r3566 r3567 r3568 r3569=>(bif (!r3551) then (κ0 (⟨#[]⟩:BA) false) else (κ0 (⟨#[]⟩:BA) false)))) else (j10 a0 a24 a23 a24 r3532 r3533 r3534 ([]:LA) r3535 r3536 r3537 r3538 r3539 r3540 r3541 r3542 ([]:LA) ([]:LA) r3543 r3544 r3545 r3546 r3547 r3548 r3549 ([]:LA) r3532 r3533 r3534 ([]:LA) r3535 r3536 r3537 r3538 r3539 r3540 r3541 r3542 ([]:LA) ([]:LA) r3543 r3544 r3545 r3546 r3547 r3548 r3549 ([]:LA))) else (j10 a0 a24 a23 a24 r3532 r3533 r3534 ([]:LA) r3535 r3536 r3537 r3538 r3539 r3540 r3541 r3542 ([]:LA) ([]:LA) r3543 r3544 r3545 r3546 r3547 r3548 r3549 ([]:LA) r3532 r3533 r3534 ([]:LA) r3535 r3536 r3537 r3538 r3539 r3540 r3541 r3542 ([]:LA) ([]:LA) r3543 r3544 r3545 r3546 r3547 r3548 r3549 ([]:LA))) else (j10 a0 a24 a23 a24 r3532 r3533 r3534 ([]:LA) r3535 r3536 r3537 r3538 r3539 r3540 r3541 r3542 ([]:LA) ([]:LA) r3543 r3544 r3545 r3546 r3547 r3548 r3549 ([]:LA) r3532 r3533 r3534 ([]:LA) r3535 r3536 r3537 r3538 r3539 r3540 r3541 r3542 ([]:LA) ([]:LA) r3543 r3544 r3545 r3546 r3547 r3548 r3549 ([]:LA))))) (fun r3570 r3571 r3572 r3573 r3574 r3575 r3576 r3577 r3578 r3579 r3580 r3581 r3582 r3583 r3584 r3585 r3586 r3587 r3588 r3589 r3590 r3591 r3592=>(bif (!r3592) then (κ0 (⟨#[]⟩:BA) false) else (bif (!decide (a23=(⟨#[]⟩:BA))) then (bif (a24 != 0) then (bif (a24 != 5) then (c3 r3570 r3571 r3572 r3573 r3574 r3575 r3576 r3577 r3578 r3579 r3580 r3581 r3582 r3583 r3584 r3585 r3586 r3587 r3588 r3589 r3590 r3591 (fun r3593 r3594 r3595 r3596 r3597 r3598 r3599 r3600 r3601 r3602 r3603 r3604 r3605 r3606 r3607 r3608 r3609 r3610 r3611 r3612 r3613 r3614 r3615=>(bif (!r3593) then (κ0 (⟨#[]⟩:BA) false) else (bif ((r3615.length:Int) == 0) then (κ0 (⟨#[]⟩:BA) false) else (bW (decide ((0:Int)<(r3615.length:Int))) (j10 a0 a24 a23 a24 r3594 r3595 r3596 r3597 r3598 r3599 r3600 r3601 r3602 r3603 r3604 r3605 r3606 r3607 r3608 r3609 r3610 r3611 r3612 r3613 r3614 r3615 ((bZ r3615 0).fld 0).s ((bZ r3615 0).fld 1).s ((bZ r3615 0).fld 2).s ((bZ r3615 0).fld 3).l ((bZ r3615 0).fld 4).b ((bZ r3615 0).fld 5).s ((bZ r3615 0).fld 6).b ((bZ r3615 0).fld 7).s ((bZ r3615 0).fld 8).b ((bZ r3615 0).fld 9).s ((bZ r3615 0).fld 10).b ((bZ r3615 0).fld 11).s ((bZ r3615 0).fld 12).l ((bZ r3615 0).fld 13).l ((bZ r3615 0).fld 14).b ((bZ r3615 0).fld 15).s ((bZ r3615 0).fld 16).i ((bZ r3615 0).fld 17).i ((bZ r3615 0).fld 18).i ((bZ r3615 0).fld 19).i ((bZ r3615 0).fld 20).i ((bZ r3615 0).fld 21).l)))))) else (j10 a0 a24 a23 a24 r3570 r3571 r3572 r3573 r3574 r3575 r3576 r3577 r3578 r3579 r3580 r3581 r3582 r3583 r3584 r3585 r3586 r3587 r3588 r3589 r3590 r3591 r3570 r3571 r3572 r3573 r3574 r3575 r3576 r3577 r3578 r3579 r3580 r3581 r3582 r3583 r3584 r3585 r3586 r3587 r3588 r3589 r3590 r3591)) else (j10 a0 a24 a23 a24 r3570 r3571 r3572 r3573 r3574 r3575 r3576 r3577 r3578 r3579 r3580 r3581 r3582 r3583 r3584 r3585 r3586 r3587 r3588 r3589 r3590 r3591 r3570 r3571 r3572 r3573 r3574 r3575 r3576 r3577 r3578 r3579 r3580 r3581 r3582 r3583 r3584 r3585 r3586 r3587 r3588 r3589 r3590 r3591)) else (j10 a0 a24 a23 a24 r3570 r3571 r3572 r3573 r3574 r3575 r3576 r3577 r3578 r3579 r3580 r3581 r3582 r3583 r3584 r3585 r3586 r3587 r3588 r3589 r3590 r3591 r3570 r3571 r3572 r3573 r3574 r3575 r3576 r3577 r3578 r3579 r3580 r3581 r3582 r3583 r3584 r3585 r3586 r3587 r3588 r3589 r3590 r3591)))))
def tM {R:Type} (c1:ck.F R) (c2:bC.F R) (c3:af.F R) (c4:cA.F R) (c5:cF.F R) (κ0:BA->Bool->Option R):Nat->x' R
 | 0=>fun _ _ _ _ _ _ _ _ _ _ _ _ _ _ _ _ _ _ _ _ _ _ _ _ _ _ _ _ _ _ _ _ _ _ _ _ _ _ _ _ _ _ _ _ _ _ _ _=>none
 | f+1=>t10 c4 c5 κ0
end ao
def ao {R:Type}:ao.F R:=fun a0 a1 a2 a3 a4 a5 a6 a7 a8 a9 a10 a11 a12 a13 a14 a15 a16 a17 a18 a19 a20 a21 a22 a23 a24 κ0=>ao.e ck bC af cA cF a0 a1 a2 a3 a4 a5 a6 a7 a8 a9 a10 a11 a12 a13 a14 a15 a16 a17 a18 a19 a20 a21 a22 a23 a24 (ao.tM ck bC af cA cF κ0 aH) κ0
abbrev ab.F (R:Type):Type:=LA->BA->BA->BA->Bool->(Bool->Option R)->Option R
namespace ab
abbrev J7 (R:Type):Type:=LA->BA->BA->Bool->BA->Option R
abbrev x' (R:Type):Type:=LA->BA->Bool->BA->BA->Int->LA->Option R
abbrev my (R:Type):Type:=BA->Bool->BA->BA->LA->Option R
abbrev DN (R:Type):Type:=Bool->BA->LA->Option R
abbrev B5 (R:Type):Type:=Bool->BA->Int->LA->BA->BA->BA->LA->Bool->BA->Bool->BA->Bool->BA->Bool->BA->LA->LA->Bool->BA->Int->Int->Int->Int->Int->LA->Option R
abbrev Dt (R:Type):Type:=Bool->BA->Int->BA->BA->Bool->BA->Bool->Bool->LA->BA->BA->BA->LA->Bool->BA->Bool->BA->Bool->BA->Bool->BA->LA->LA->Bool->BA->Int->Int->Int->Int->Int->LA->Option R
abbrev Du (R:Type):Type:=Bool->BA->Int->BA->BA->Bool->BA->Bool->BA->LA->BA->BA->BA->LA->Bool->BA->Bool->BA->Bool->BA->Bool->BA->LA->LA->Bool->BA->Int->Int->Int->Int->Int->LA->Option R
def t7 {R:Type} (c2:aK.F R) (j10:x' R):J7 R :=
 fun x0 x1 x2 x3 x4=>(bW (decide ((⟨#[83,117,98,106,101,99,116,58,32,120,13,10,67,111,110,116,101,110,116,45,84,121,112,101,58,32,77,117,108,116,105,112,97,114,116,47,77,105,120,101,100,32,59,32,66,111,117,110,100,97,114,121,61,34]⟩:BA).size+x4.size<=9223372036854775807)) (bW (decide (((⟨#[83,117,98,106,101,99,116,58,32,120,13,10,67,111,110,116,101,110,116,45,84,121,112,101,58,32,77,117,108,116,105,112,97,114,116,47,77,105,120,101,100,32,59,32,66,111,117,110,100,97,114,121,61,34]⟩:BA)++x4).size+(⟨#[34,13,10,13,10]⟩:BA).size<=9223372036854775807)) (c2 x1 (fun r3926=>(bW (decide ((((⟨#[83,117,98,106,101,99,116,58,32,120,13,10,67,111,110,116,101,110,116,45,84,121,112,101,58,32,77,117,108,116,105,112,97,114,116,47,77,105,120,101,100,32,59,32,66,111,117,110,100,97,114,121,61,34]⟩:BA)++x4)++(⟨#[34,13,10,13,10]⟩:BA)).size+r3926.size<=9223372036854775807)) (bW (decide (((((⟨#[83,117,98,106,101,99,116,58,32,120,13,10,67,111,110,116,101,110,116,45,84,121,112,101,58,32,77,117,108,116,105,112,97,114,116,47,77,105,120,101,100,32,59,32,66,111,117,110,100,97,114,121,61,34]⟩:BA)++x4)++(⟨#[34,13,10,13,10]⟩:BA))++r3926).size+(⟨#[13,10]⟩:BA).size<=9223372036854775807)) (j10 x0 x2 x3 x4 (((((⟨#[83,117,98,106,101,99,116,58,32,120,13,10,67,111,110,116,101,110,116,45,84,121,112,101,58,32,77,117,108,116,105,112,97,114,116,47,77,105,120,101,100,32,59,32,66,111,117,110,100,97,114,121,61,34]⟩:BA)++x4)++(⟨#[34,13,10,13,10]⟩:BA))++r3926)++(⟨#[13,10]⟩:BA)) 0 ([]:LA))))))))
def t10 {R:Type} (c2:aK.F R) (j10:x' R) (j15:my R):x' R :=
 fun x0 x1 x2 x3 x4 x5 x6=>(bif (decide (x5<(x0.length:Int))) then (bif (decide (x5<(9:Int))) then (bW ((decide ((0:Int)<=x5))&&(decide (x5<(x0.length:Int)))) (c2 (bZ x0 x5).s (fun r3927=>(bW (decide ((x6.length+1)*16<=140737488355328)) (bW (decide (x4.size+(⟨#[45,45]⟩:BA).size<=9223372036854775807)) (bW (decide ((x4++(⟨#[45,45]⟩:BA)).size+x3.size<=9223372036854775807)) (bW (decide (((x4++(⟨#[45,45]⟩:BA))++x3).size+(⟨#[32,9,13,10,67,111,110,116,101,110,116,45,73,100,58,32]⟩:BA).size<=9223372036854775807)) (bW (decide ((((x4++(⟨#[45,45]⟩:BA))++x3)++(⟨#[32,9,13,10,67,111,110,116,101,110,116,45,73,100,58,32]⟩:BA)).size+(cY [AV.int (IntKind.wrap .u8 (IntKind.wrap .i64 (48+x5)))]).size<=9223372036854775807)) (bW (decide (((((x4++(⟨#[45,45]⟩:BA))++x3)++(⟨#[32,9,13,10,67,111,110,116,101,110,116,45,73,100,58,32]⟩:BA))++(cY [AV.int (IntKind.wrap .u8 (IntKind.wrap .i64 (48+x5)))])).size+(⟨#[13,10,13,10]⟩:BA).size<=9223372036854775807)) (bW (decide ((((((x4++(⟨#[45,45]⟩:BA))++x3)++(⟨#[32,9,13,10,67,111,110,116,101,110,116,45,73,100,58,32]⟩:BA))++(cY [AV.int (IntKind.wrap .u8 (IntKind.wrap .i64 (48+x5)))]))++(⟨#[13,10,13,10]⟩:BA)).size+r3927.size<=9223372036854775807)) (bW (decide (((((((x4++(⟨#[45,45]⟩:BA))++x3)++(⟨#[32,9,13,10,67,111,110,116,101,110,116,45,73,100,58,32]⟩:BA))++(cY [AV.int (IntKind.wrap .u8 (IntKind.wrap .i64 (48+x5)))]))++(⟨#[13,10,13,10]⟩:BA))++r3927).size+(⟨#[13,10]⟩:BA).size<=9223372036854775807)) (j10 x0 x1 x2 x3 (((((((x4++(⟨#[45,45]⟩:BA))++x3)++(⟨#[32,9,13,10,67,111,110,116,101,110,116,45,73,100,58,32]⟩:BA))++(cY [AV.int (IntKind.wrap .u8 (IntKind.wrap .i64 (48+x5)))]))++(⟨#[13,10,13,10]⟩:BA))++r3927)++(⟨#[13,10]⟩:BA)) (IntKind.wrap .i64 (x5+1)) (x6++[AV.str r3927]))))))))))))) else (j15 x1 x2 x3 x4 x6)) else (j15 x1 x2 x3 x4 x6))
def t15 {R:Type} (c2:aK.F R) (j19:DN R) (κ0:Bool->Option R):my R :=
 fun x0 x1 x2 x3 x4=>(bif ((x4.length:Int) == 0) then (κ0 true) else (bif x1 then (bW (decide (x3.size+(⟨#[45,45]⟩:BA).size<=9223372036854775807)) (bW (decide ((x3++(⟨#[45,45]⟩:BA)).size+x2.size<=9223372036854775807)) (bW (decide (((x3++(⟨#[45,45]⟩:BA))++x2).size+(⟨#[45,45,13,10]⟩:BA).size<=9223372036854775807)) (c2 x0 (fun r3928=>(bW (decide ((((x3++(⟨#[45,45]⟩:BA))++x2)++(⟨#[45,45,13,10]⟩:BA)).size+r3928.size<=9223372036854775807)) (bW (decide (((((x3++(⟨#[45,45]⟩:BA))++x2)++(⟨#[45,45,13,10]⟩:BA))++r3928).size+(⟨#[13,10,45,45]⟩:BA).size<=9223372036854775807)) (bW (decide ((((((x3++(⟨#[45,45]⟩:BA))++x2)++(⟨#[45,45,13,10]⟩:BA))++r3928)++(⟨#[13,10,45,45]⟩:BA)).size+x2.size<=9223372036854775807)) (bW (decide (((((((x3++(⟨#[45,45]⟩:BA))++x2)++(⟨#[45,45,13,10]⟩:BA))++r3928)++(⟨#[13,10,45,45]⟩:BA))++x2).size+(⟨#[13,10,13,10,110,111,32,112,97,114,116]⟩:BA).size<=9223372036854775807)) (j19 x1 (((((((x3++(⟨#[45,45]⟩:BA))++x2)++(⟨#[45,45,13,10]⟩:BA))++r3928)++(⟨#[13,10,45,45]⟩:BA))++x2)++(⟨#[13,10,13,10,110,111,32,112,97,114,116]⟩:BA)) x4)))))))))) else (j19 x1 x3 x4)))
def t19 {R:Type} (c4:aG.F R) (j23:B5 R) (κ0:Bool->Option R):DN R :=
 fun x0 x1 x2=>(c4 x1 (fun r3929 r3930 r3931 r3932 r3933 r3934 r3935 r3936 r3937 r3938 r3939 r3940 r3941 r3942 r3943 r3944 r3945 r3946 r3947 r3948 r3949 r3950=>(bif (!decide (r3930=(⟨#[109,117,108,116,105,112,97,114,116]⟩:BA))) then (κ0 false) else (bif (!decide (r3931=(⟨#[109,105,120,101,100]⟩:BA))) then (κ0 false) else (bif ((r3950.length:Int) != (x2.length:Int)) then (κ0 false) else (j23 x0 x1 0 x2 r3929 r3930 r3931 r3932 r3933 r3934 r3935 r3936 r3937 r3938 r3939 r3940 r3941 r3942 r3943 r3944 r3945 r3946 r3947 r3948 r3949 r3950))))))
def t23 {R:Type} (c5:ao.F R) (j29:Dt R) (κ0:Bool->Option R):B5 R :=
 fun x0 x1 x2 x3 x4 x5 x6 x7 x8 x9 x10 x11 x12 x13 x14 x15 x16 x17 x18 x19 x20 x21 x22 x23 x24 x25=>(bif (decide (x2<(x3.length:Int))) then (c5 x1 x4 x5 x6 x7 x8 x9 x10 x11 x12 x13 x14 x15 x16 x17 x18 x19 x20 x21 x22 x23 x24 x25 (cY [AV.int (IntKind.wrap .u8 (IntKind.wrap .i64 (49+x2)))]) 0 (fun r3951 r3952=>(c5 x1 x4 x5 x6 x7 x8 x9 x10 x11 x12 x13 x14 x15 x16 x17 x18 x19 x20 x21 x22 x23 x24 x25 (cY [AV.int (IntKind.wrap .u8 (IntKind.wrap .i64 (49+x2)))]) 5 (fun r3953 r3954=>(bif (x2 == (IntKind.wrap .i64 ((x3.length:Int)-1))) then (j29 x0 x1 x2 (cY [AV.int (IntKind.wrap .u8 (IntKind.wrap .i64 (49+x2)))]) r3951 r3952 r3953 r3954 (!x0) x3 x4 x5 x6 x7 x8 x9 x10 x11 x12 x13 x14 x15 x16 x17 x18 x19 x20 x21 x22 x23 x24 x25) else (j29 x0 x1 x2 (cY [AV.int (IntKind.wrap .u8 (IntKind.wrap .i64 (49+x2)))]) r3951 r3952 r3953 r3954 false x3 x4 x5 x6 x7 x8 x9 x10 x11 x12 x13 x14 x15 x16 x17 x18 x19 x20 x21 x22 x23 x24 x25)))))) else (κ0 true))
def t29 {R:Type} (j32:Du R):Dt R :=
 fun x0 x1 x2 x3 x4 x5 x6 x7 x8 x9 x10 x11 x12 x13 x14 x15 x16 x17 x18 x19 x20 x21 x22 x23 x24 x25 x26 x27 x28 x29 x30 x31=>(bW ((decide ((0:Int)<=x2))&&(decide (x2<(x9.length:Int)))) (bif x8 then (bW (decide ((bZ x9 x2).s.size+(⟨#[13,10]⟩:BA).size<=9223372036854775807)) (j32 x0 x1 x2 x3 x4 x5 x6 x7 ((bZ x9 x2).s++(⟨#[13,10]⟩:BA)) x9 x10 x11 x12 x13 x14 x15 x16 x17 x18 x19 x20 x21 x22 x23 x24 x25 x26 x27 x28 x29 x30 x31)) else (j32 x0 x1 x2 x3 x4 x5 x6 x7 (bZ x9 x2).s x9 x10 x11 x12 x13 x14 x15 x16 x17 x18 x19 x20 x21 x22 x23 x24 x25 x26 x27 x28 x29 x30 x31)))
def t32 {R:Type} (j23:B5 R) (κ0:Bool->Option R):Du R :=
 fun x0 x1 x2 x3 x4 x5 x6 x7 x8 x9 x10 x11 x12 x13 x14 x15 x16 x17 x18 x19 x20 x21 x22 x23 x24 x25 x26 x27 x28 x29 x30 x31=>(bif (!x5) then (κ0 false) else (bif (!x7) then (κ0 false) else (bif (!decide (x4=x8)) then (κ0 false) else (bW (decide ((⟨#[67,111,110,116,101,110,116,45,73,100,58,32]⟩:BA).size+(cY [AV.int (IntKind.wrap .u8 (IntKind.wrap .i64 (48+x2)))]).size<=9223372036854775807)) (bW (decide (((⟨#[67,111,110,116,101,110,116,45,73,100,58,32]⟩:BA)++(cY [AV.int (IntKind.wrap .u8 (IntKind.wrap .i64 (48+x2)))])).size+(⟨#[13,10,13,10]⟩:BA).size<=9223372036854775807)) (bif (!decide (x6=(((⟨#[67,111,110,116,101,110,116,45,73,100,58,32]⟩:BA)++(cY [AV.int (IntKind.wrap .u8 (IntKind.wrap .i64 (48+x2)))]))++(⟨#[13,10,13,10]⟩:BA)))) then (κ0 false) else (bW ((decide ((0:Int)<=x2))&&(decide (x2<(x31.length:Int)))) (bif (!decide (((bZ x31 x2).fld 0).s=x3)) then (κ0 false) else (bW ((decide ((0:Int)<=x2))&&(decide (x2<(x31.length:Int)))) (bif (!decide (((bZ x31 x2).fld 1).s=(⟨#[116,101,120,116]⟩:BA))) then (κ0 false) else (bW ((decide ((0:Int)<=x2))&&(decide (x2<(x31.length:Int)))) (bif (!((((bZ x31 x2).fld 4).b == true)&&((decide (((bZ x31 x2).fld 5).s=(cY [AV.int (IntKind.wrap .u8 (IntKind.wrap .i64 (48+x2)))])))&&true))) then (κ0 false) else (j23 x0 x1 (IntKind.wrap .i64 (x2+1)) x9 x10 x11 x12 x13 x14 x15 x16 x17 x18 x19 x20 x21 x22 x23 x24 x25 x26 x27 x28 x29 x30 x31)))))))))))))
def e {R:Type} (c1:aV.F R) (c2:aK.F R) (c3:aP.F R) (c4:aG.F R) (c5:ao.F R) (a0:LA) (a1:BA) (a2:BA) (a3:BA) (a4:Bool) (j7:J7 R) (j10:x' R) (j15:my R) (j19:DN R) (j23:B5 R) (j29:Dt R) (j32:Du R) (κ0:Bool->Option R):Option R :=
 (c1 (fun r3923=>(bif (!r3923) then (κ0 false) else (c2 a3 (fun r3924=>(bW (decide ((⟨#[98]⟩:BA).size+r3924.size<=9223372036854775807)) (bif (decide ((((⟨#[98]⟩:BA)++r3924).size:Int)>(60:Int))) then (j7 a0 a1 a2 a4 (⟨#[98]⟩:BA)) else (c3 ((⟨#[98]⟩:BA)++r3924) (fun r3925=>(bif (!r3925) then (j7 a0 a1 a2 a4 (⟨#[98]⟩:BA)) else (j7 a0 a1 a2 a4 ((⟨#[98]⟩:BA)++r3924))))))))))))
def Dy {R:Type} (c1:aV.F R) (c2:aK.F R) (c3:aP.F R) (c4:aG.F R) (c5:ao.F R) (κ0:Bool->Option R):Nat->(B5 R) × (Dt R) × (Du R)
 | 0=>(fun _ _ _ _ _ _ _ _ _ _ _ _ _ _ _ _ _ _ _ _ _ _ _ _ _ _=>none,fun _ _ _ _ _ _ _ _ _ _ _ _ _ _ _ _ _ _ _ _ _ _ _ _ _ _ _ _ _ _ _ _=>none,fun _ _ _ _ _ _ _ _ _ _ _ _ _ _ _ _ _ _ _ _ _ _ _ _ _ _ _ _ _ _ _ _=>none)
 | f+1=>(t23 c5 ((Dy c1 c2 c3 c4 c5 κ0 f).2.1) κ0,
  t29 ((Dy c1 c2 c3 c4 c5 κ0 f).2.2),
  t32 ((Dy c1 c2 c3 c4 c5 κ0 f).1) κ0)
def Ar {R:Type} (c1:aV.F R) (c2:aK.F R) (c3:aP.F R) (c4:aG.F R) (c5:ao.F R) (κ0:Bool->Option R) (f:Nat):B5 R:=(Dy c1 c2 c3 c4 c5 κ0 f).1
def B7 {R:Type} (c1:aV.F R) (c2:aK.F R) (c3:aP.F R) (c4:aG.F R) (c5:ao.F R) (κ0:Bool->Option R) (f:Nat):Dt R:=(Dy c1 c2 c3 c4 c5 κ0 f).2.1
def Dx {R:Type} (c1:aV.F R) (c2:aK.F R) (c3:aP.F R) (c4:aG.F R) (c5:ao.F R) (κ0:Bool->Option R) (f:Nat):Du R:=(Dy c1 c2 c3 c4 c5 κ0 f).2.2
def Dw {R:Type} (c1:aV.F R) (c2:aK.F R) (c3:aP.F R) (c4:aG.F R) (c5:ao.F R) (κ0:Bool->Option R):Nat->DN R
 | 0=>fun _ _ _=>none
 | f+1=>t19 c4 (Ar c1 c2 c3 c4 c5 κ0 f) κ0
def je {R:Type} (c1:aV.F R) (c2:aK.F R) (c3:aP.F R) (c4:aG.F R) (c5:ao.F R) (κ0:Bool->Option R):Nat->my R
 | 0=>fun _ _ _ _ _=>none
 | f+1=>t15 c2 (Dw c1 c2 c3 c4 c5 κ0 f) κ0
def tM {R:Type} (c1:aV.F R) (c2:aK.F R) (c3:aP.F R) (c4:aG.F R) (c5:ao.F R) (κ0:Bool->Option R):Nat->x' R
 | 0=>fun _ _ _ _ _ _ _=>none
 | f+1=>t10 c2 (tM c1 c2 c3 c4 c5 κ0 f) (je c1 c2 c3 c4 c5 κ0 f)
def L7 {R:Type} (c1:aV.F R) (c2:aK.F R) (c3:aP.F R) (c4:aG.F R) (c5:ao.F R) (κ0:Bool->Option R):Nat->J7 R
 | 0=>fun _ _ _ _ _=>none
 | f+1=>t7 c2 (tM c1 c2 c3 c4 c5 κ0 f)
end ab
def ab {R:Type}:ab.F R:=fun a0 a1 a2 a3 a4 κ0=>ab.e aV aK aP aG ao a0 a1 a2 a3 a4 (ab.L7 aV aK aP aG ao κ0 aH) (ab.tM aV aK aP aG ao κ0 aH) (ab.je aV aK aP aG ao κ0 aH) (ab.Dw aV aK aP aG ao κ0 aH) (ab.Ar aV aK aP aG ao κ0 aH) (ab.B7 aV aK aP aG ao κ0 aH) (ab.Dx aV aK aP aG ao κ0 aH) κ0
end Go.Proofs.Ab
