/- What each function computes, as a plain Lean function, printed by a program of ours (definitions alone). -/
import Derived.Test.YtneffefnlogkaaaGreatDoorTextA
set_option linter.unusedVariables false
set_option linter.unusedSimpArgs false
set_option maxRecDepth 4000
open Go.IntKind (wrap)
namespace Go.Proofs.Ab
open Go
abbrev aG.F (R:Type):Type:=BA->BA->BA->Int->LA->(Y3->Y1 R)->Y1 R
namespace aG
abbrev BU (R:Type):Type:=BA->BA->Int->LA->T6 R
abbrev yZ (R:Type):Type:=BA->BA->Int->LA->Int->T6 R
abbrev tK (R:Type):Type:=BA->BA->Int->LA->Int->Int->T6 R
def t10 {R:Type} (m:yZ R) (f:Y3->Y1 R):BU R:=
 fun x0 x1 x2 x3 u x5 x6 x7 x8 x9 z A M N O U V W X Y ad ae ap ar ax a1 a6 a7 a8 bb be bk bs bx bP bS bV b0 b1 b2 b3 b4 b5 b' ca cl cp ct c0 j=>(bif decide (u<j.length) then (bif decide (u<30) then (m x0 x1 x2 x3 u (-1) x5 x6 x7 x8 x9 z A M N O U V W X Y ad ae ap ar ax a1 a6 a7 a8 bb be bk bs bx bP bS bV b0 b1 b2 b3 b4 b5 b' ca cl cp ct c0 j) else (f true)) else (f true))
def t13 {R:Type} (c0:BU R) (ct:tK R):yZ R:=
 fun x0 x1 x2 x3 x4 x5 x6 x7 x8 x9 f j m u z A M N O U V W X Y ad ae ap ar ax a1 a6 a7 a8 bb be bk bs bx bP bS bV b0 b1 b2 b3 b4 b5 b' ca cl cp=>(bif decide (x5<=7) then (bif (x5 == 7) then (ct x0 x1 x2 x3 x4 x5 x2 x6 x7 x8 x9 f j m u z A M N O U V W X Y ad ae ap ar ax a1 a6 a7 a8 bb be bk bs bx bP bS bV b0 b1 b2 b3 b4 b5 b' ca cl cp) else (ct x0 x1 x2 x3 x4 x5 x5 x6 x7 x8 x9 f j m u z A M N O U V W X Y ad ae ap ar ax a1 a6 a7 a8 bb be bk bs bx bP bS bV b0 b1 b2 b3 b4 b5 b' ca cl cp)) else (c0 x0 x1 x2 x3 (wrap .i64 (x4+1)) x6 x7 x8 x9 f j m u z A M N O U V W X Y ad ae ap ar ax a1 a6 a7 a8 bb be bk bs bx bP bS bV b0 b1 b2 b3 b4 b5 b' ca cl cp))
def t18 {R:Type} (c5:aW.F R) (c6:bz.F R) (c7:bd.F R) (et:yZ R) (m:Y3->Y1 R):tK R:=
 fun x0 x1 x2 f u x5 x6 x7 x8 x9 z A M N O U V W X Y ad ae ap ar ax a1 a6 a7 a8 bb be bk bs bx bP bS bV b0 b1 b2 b3 b4 b5 b' ca cl cp ct c0 c' dg j=>(bo (decide ((0+f.length)*16<=140737488355328)) (bo (decide (((([]:LA)++f).length+1)*16<=140737488355328)) (bo (decide (0<=u)&&decide (u<j.length)) (bo ((decide (0<=(f.length:Int)))&&(decide ((f.length:Int)<=(((([]:LA)++f)++[AV.str (⟨#[114,111,111,109]⟩:BA)]).length:Int)))) (c5 x0 x7 x8 x9 z A M N O U V W X Y ad ae ap ar ax a1 a6 a7 a8 (bi j u).s x6 (iF ((([]:LA)++f)++[AV.str (⟨#[114,111,111,109]⟩:BA)]) 0 (f.length:Int)) (fun dr d'=>(c5 x1 x7 x8 x9 z A M N O U V W X Y ad ae ap ar ax a1 a6 a7 a8 (bi j u).s x6 (iF ((([]:LA)++f)++[AV.str (⟨#[114,111,111,109]⟩:BA)]) 0 (f.length:Int)) (fun ea eb=>(bo ((decide (0<=(f.length:Int)))&&(decide ((f.length:Int)<=(((([]:LA)++f)++[AV.str (⟨#[114,111,111,109]⟩:BA)]).length:Int)))) (c6 (iF ((([]:LA)++f)++[AV.str (⟨#[114,111,111,109]⟩:BA)]) 0 (f.length:Int)) f (fun ed=>(bif !ed then (m false) else (bo ((decide (0<=(f.length:Int)))&&(decide ((f.length:Int)<(((([]:LA)++f)++[AV.str (⟨#[114,111,111,109]⟩:BA)]).length:Int)))) (bif (!decide ((bi ((([]:LA)++f)++[AV.str (⟨#[114,111,111,109]⟩:BA)]) (f.length:Int)).s=(⟨#[114,111,111,109]⟩:BA))) then (m false) else (bo (decide (0<=u)&&decide (u<j.length)) (c7 x0 bb be bk bs bx bP bS bV b0 b1 b2 b3 b4 b5 b' ca cl cp ct c0 c' dg (bi j u).s x6 f (fun ei ek=>(bo (decide (0<=u)&&decide (u<j.length)) (c7 x1 bb be bk bs bx bP bS bV b0 b1 b2 b3 b4 b5 b' ca cl cp ct c0 c' dg (bi j u).s x6 f (fun en ep=>(bif (!decide (dr=ei)) then (m false) else (bif (!(d' == ek)) then (m false) else (bif (!decide (ea=en)) then (m false) else (bif (!(eb == ep)) then (m false) else (et x0 x1 x2 f u (wrap .i64 (x5+1)) x7 x8 x9 z A M N O U V W X Y ad ae ap ar ax a1 a6 a7 a8 bb be bk bs bx bP bS bV b0 b1 b2 b3 b4 b5 b' ca cl cp ct c0 c' dg j)))))))))))))))))))))))))
def e {R:Type} (c1:b8.F R) (c2:bh.F R) (c3:bO.F R) (c4:aM.F R) (c5:aW.F R) (c6:bz.F R) (c7:bd.F R) (a0 a1 a2:BA) (a3:Int) (a4:LA) (eb:BU R) (ed:yZ R) (ei:tK R) (be:Y3->Y1 R):Y1 R:=
 (c1 (fun bk=>(bif !bk then (be false) else (bif decide ((a0.size:Int)>(20000:Int)) then (be true) else (bif decide ((a1.size:Int)>(20000:Int)) then (be true) else (bif decide ((a4.length:Int)>(64:Int)) then (be true) else (c2 a0 (fun bs bx bP bS bV b0 b1 b2 b3 b4 b5 b' ca cl cp ct c0 c' dg dr d' ea=>(c3 a0 (fun f j m u z A M N O U V W X Y ad ae ap ar ax a6 a7 a8=>(c4 f j m u z A M N O U V W X Y ad ae ap ar ax a6 a7 a8 (fun bb=>(bo (decide ((bb.length+2)*16<=140737488355328)) (eb a0 a1 a3 a4 0 bs bx bP bS bV b0 b1 b2 b3 b4 b5 b' ca cl cp ct c0 c' dg dr d' ea f j m u z A M N O U V W X Y ad ae ap ar ax a6 a7 a8 (bb++[AV.str a2,AV.str (⟨#[]⟩:BA)])))))))))))))))
def Gg {R:Type} (c1:b8.F R) (c2:bh.F R) (c3:bO.F R) (c4:aM.F R) (c5:aW.F R) (c6:bz.F R) (c7:bd.F R) (j:Y3->Y1 R):Nat->(BU R) × (yZ R) × (tK R)
 | 0=>(fun _ _ _ _ _ _ _ _ _ _ _ _ _ _ _ _ _ _ _ _ _ _ _ _ _ _ _ _ _ _ _ _ _ _ _ _ _ _ _ _ _ _ _ _ _ _ _ _ _ _=>none,fun _ _ _ _ _ _ _ _ _ _ _ _ _ _ _ _ _ _ _ _ _ _ _ _ _ _ _ _ _ _ _ _ _ _ _ _ _ _ _ _ _ _ _ _ _ _ _ _ _ _ _=>none,fun _ _ _ _ _ _ _ _ _ _ _ _ _ _ _ _ _ _ _ _ _ _ _ _ _ _ _ _ _ _ _ _ _ _ _ _ _ _ _ _ _ _ _ _ _ _ _ _ _ _ _ _=>none)
 | f+1=>(t10 ((Gg c1 c2 c3 c4 c5 c6 c7 j f).2.1) j,
  t13 ((Gg c1 c2 c3 c4 c5 c6 c7 j f).1) ((Gg c1 c2 c3 c4 c5 c6 c7 j f).2.2),
  t18 c5 c6 c7 ((Gg c1 c2 c3 c4 c5 c6 c7 j f).2.1) j)
def Ap {R:Type} (c1:b8.F R) (c2:bh.F R) (c3:bO.F R) (c4:aM.F R) (c5:aW.F R) (c6:bz.F R) (c7:bd.F R) (j:Y3->Y1 R) (f:Nat):BU R:=(Gg c1 c2 c3 c4 c5 c6 c7 j f).1
def u6 {R:Type} (c1:b8.F R) (c2:bh.F R) (c3:bO.F R) (c4:aM.F R) (c5:aW.F R) (c6:bz.F R) (c7:bd.F R) (j:Y3->Y1 R) (f:Nat):yZ R:=(Gg c1 c2 c3 c4 c5 c6 c7 j f).2.1
def rj {R:Type} (c1:b8.F R) (c2:bh.F R) (c3:bO.F R) (c4:aM.F R) (c5:aW.F R) (c6:bz.F R) (c7:bd.F R) (j:Y3->Y1 R) (f:Nat):tK R:=(Gg c1 c2 c3 c4 c5 c6 c7 j f).2.2
end aG
def aG {R:Type}:aG.F R:=fun a0 a1 a2 a3 a4 f=>aG.e b8 bh bO aM aW bz bd a0 a1 a2 a3 a4 (aG.Ap b8 bh bO aM aW bz bd f ah) (aG.u6 b8 bh bO aM aW bz bd f ah) (aG.rj b8 bh bO aM aW bz bd f ah) f
end Go.Proofs.Ab
