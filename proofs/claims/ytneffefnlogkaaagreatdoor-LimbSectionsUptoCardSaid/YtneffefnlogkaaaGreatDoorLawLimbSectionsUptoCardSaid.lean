/- The law is true for every input (no condition). -/
import Derived.Test.YtneffefnlogkaaaGreatDoorCheck4
import Derived.Test.YtneffefnlogkaaaGreatDoorPlainBLimbSectionsUptoCardSaid
import Derived.Test.YtneffefnlogkaaaGreatDoorCards
import Derived.Test.YtneffefnlogkaaaGreatDoorTie
import Derived.WalkKit
import Derived.ProofKit
import Derived.OpenShut
import Derived.ShutString
import Derived.Deep.DeepHandedRow
import Derived.Lib.LaidTab
import Derived.Shelf.Vars
set_option linter.unusedVariables false
set_option linter.unusedSimpArgs false
set_option maxRecDepth 4000
namespace Go.Proofs.YtneffefnlogkaaaGreatDoor.limbSections
open Go.ChangeShapes Go.WideShapes Go.ChangeAt Go.RowKit Go.Proofs.Ab
open Go.ChangeMaps (open_string shut_string)
theorem own:ownKnob Tryz.prog.godebug=none:=by kernel_rfl
theorem HL:Tryz.prog.funcNamed Rows.limbSectionsUptoRow.func=some 7:=by kernel_rfl
noncomputable def nF (os:Os):World:=
 vX (vX (vX (vX (vX (World.holding Tryz.prog os ⟨#[],#[],[]⟩) 1 (Pinned.utf8FirstZ.map fun (n:Nat)=>Value.int .u8 (n:Int)).toArray) 2 #[.int .u8 128,.int .u8 191,.int .u8 160,.int .u8 191,.int .u8 128,.int .u8 159,.int .u8 144,.int .u8 191,.int .u8 128,.int .u8 143,.int .u8 0,.int .u8 0,.int .u8 0,.int .u8 0,.int .u8 0,.int .u8 0,.int .u8 0,.int .u8 0,.int .u8 0,.int .u8 0,.int .u8 0,.int .u8 0,.int .u8 0,.int .u8 0,.int .u8 0,.int .u8 0,.int .u8 0,.int .u8 0,.int .u8 0,.int .u8 0,.int .u8 0,.int .u8 0]) 3 #[.int .u64 1,.int .u64 10,.int .u64 100,.int .u64 1000,.int .u64 10000,.int .u64 100000,.int .u64 1000000,.int .u64 10000000,.int .u64 100000000,.int .u64 1000000000,.int .u64 10000000000,.int .u64 100000000000,.int .u64 1000000000000,.int .u64 10000000000000,.int .u64 100000000000000,.int .u64 1000000000000000,.int .u64 10000000000000000,.int .u64 100000000000000000,.int .u64 1000000000000000000,.int .u64 10000000000000000000]) 4 #[.int .u8 0,.int .u8 1,.int .u8 28,.int .u8 2,.int .u8 29,.int .u8 14,.int .u8 24,.int .u8 3,.int .u8 30,.int .u8 22,.int .u8 20,.int .u8 15,.int .u8 25,.int .u8 17,.int .u8 4,.int .u8 8,.int .u8 31,.int .u8 27,.int .u8 13,.int .u8 23,.int .u8 21,.int .u8 19,.int .u8 16,.int .u8 7,.int .u8 26,.int .u8 12,.int .u8 18,.int .u8 6,.int .u8 11,.int .u8 5,.int .u8 10,.int .u8 9]) 5 #[.int .u8 0,.int .u8 1,.int .u8 56,.int .u8 2,.int .u8 57,.int .u8 49,.int .u8 28,.int .u8 3,.int .u8 61,.int .u8 58,.int .u8 42,.int .u8 50,.int .u8 38,.int .u8 29,.int .u8 17,.int .u8 4,.int .u8 62,.int .u8 47,.int .u8 59,.int .u8 36,.int .u8 45,.int .u8 43,.int .u8 51,.int .u8 22,.int .u8 53,.int .u8 39,.int .u8 33,.int .u8 30,.int .u8 24,.int .u8 18,.int .u8 12,.int .u8 5,.int .u8 63,.int .u8 55,.int .u8 48,.int .u8 27,.int .u8 60,.int .u8 41,.int .u8 37,.int .u8 16,.int .u8 46,.int .u8 35,.int .u8 44,.int .u8 21,.int .u8 52,.int .u8 32,.int .u8 23,.int .u8 11,.int .u8 54,.int .u8 26,.int .u8 40,.int .u8 15,.int .u8 34,.int .u8 20,.int .u8 31,.int .u8 10,.int .u8 25,.int .u8 14,.int .u8 19,.int .u8 9,.int .u8 13,.int .u8 8,.int .u8 7,.int .u8 6]
theorem Dd (os:Os):laidMet Tryz.prog Rows.limbSectionsUptoRow.laid ((nF os).forCall (fun _ _=>0) ⟨#[],#[.string ByteArray.empty,.string ByteArray.empty,.string ByteArray.empty,.int .i64 0,.slice none 0 0],[]⟩).memory:=
 laidMet_of_run' 8 (by kernel_rfl) (by kernel_rfl)
theorem reads (os:Os) {H:Type} (enc:TypeId × Value->H):∃ places,DataW.whole enc Tryz.prog ((nF os).forCall (fun _ _=>0) ⟨#[],#[.string ByteArray.empty,.string ByteArray.empty,.string ByteArray.empty,.int .i64 0,.slice none 0 0],[]⟩).memory Tryz.f7.params.toList Rows.limbSectionsSpec.vars false (#[Value.string ByteArray.empty,Value.string ByteArray.empty,Value.string ByteArray.empty,Value.int .i64 0,Value.slice none 0 0]:Array Value).toList 8=some ([.lit (.string []),.lit (.string []),.lit (.string []),.lit (.int .i64 0),.nil],[],places):=
 ⟨[],by kernel_rfl⟩
theorem Cr (H:Type) (enc:TypeId × Value->H) (W:World) (base:Nat) (args:Array Value) (ds gs:List (DataW H)) (before:List MemPlace)
  (u:∀ (j:Nat) t v,Tryz.f7.params[j]? = some t->args[j]? = some v->Value.okWide Tryz.prog W .any base t v)
  (hW:DataW.Whole enc Tryz.prog Tryz.f7.params.toList Rows.limbSectionsSpec.vars false W args.toList ds gs before) (O:W.ShapedOpen Tryz.prog) (U:(DataW.weightsEach Tryz.prog (Tryz.f7.params.toList++(Rows.OpenSpec.upto Rows.limbSectionsSpec).bare.plain.varTypes Tryz.prog) (ds++gs)).all (· <= reachBytes)=true) (hk:Rows.uptoSmall H (ds++gs)=true) :
  Calls Tryz.prog 7 args W fun e W'=>∃ v,e = .returned v/\Rows.limbSectionsSpec.post enc Tryz.prog Tryz.f7 false true false false W args v W':=by
 have f:∀ (j:Nat) t v,Tryz.f7.params[j]? = some t->args[j]? = some v->Value.okWide Tryz.prog W .any base t v:=u
 have V:=hW
 obtain ⟨p,q,z,hV,rfl,ad,ae⟩:=hW
 have hA:DataW.TrodAll enc Tryz.prog W 0 (fun _=>true) true Tryz.f7.params.toList args.toList ds p:=z
 rw [Tryz.params7] at hA f
 obtain ⟨v0,ap,d0,ar,p0,q0,X,rfl,rfl,h0,r0⟩:=trodAll_cons hA
 obtain ⟨v1,ax,d1,a6,p1,q1,rfl,rfl,rfl,h1,r1⟩:=trodAll_cons r0
 obtain ⟨v2,a7,d2,a8,p2,q2,rfl,rfl,rfl,h2,r2⟩:=trodAll_cons r1
 obtain ⟨v3,bb,d3,be,p3,q3,rfl,rfl,rfl,h3,r3⟩:=trodAll_cons r2
 obtain ⟨v4,bk,d4,bs,p4,q4,rfl,rfl,rfl,h4,r4⟩:=trodAll_cons r3
 obtain ⟨rfl,rfl,rfl⟩:=trodAll_nil r4
 obtain rfl:args = #[v0,v1,v2,v3,v4]:=by cases args;simp_all
 obtain ⟨rfl,rfl⟩:=trodVars_none hV
 obtain ⟨a0,rfl,rfl,rfl,y0⟩:=open_string Tryz.underlying9 (f 0 9 v0 rfl rfl) h0
 obtain ⟨a1,rfl,rfl,rfl,y1⟩:=open_string Tryz.underlying9 (f 1 9 v1 rfl rfl) h1
 obtain ⟨a2,rfl,rfl,rfl,y2⟩:=open_string Tryz.underlying9 (f 2 9 v2 rfl rfl) h2
 obtain ⟨a3,rfl,rfl,rfl,y3⟩:=open_int Tryz.underlying3 (f 3 3 v3 rfl rfl) h3
 obtain ⟨l4,y4,A⟩:=Dy (T:=ag br) 3 (e:=9) (by kernel_rfl) Tryz.underlying27 (f 4 27 v4 rfl rfl) h4 (yU U (j:=4) (t:=27) rfl rfl)
 clear z
 have Y:=of_decide_eq_true hk
 simp only [List.append_nil,List.cons_append,List.nil_append,Rows.uptoBulkAll,Rows.uptoBulk,Array.length_toList] at Y
 have M:a2.size<=10000000:=by have:a2.data.size=a2.size:=rfl;omega
 obtain ⟨m,hm⟩:=cell_of_shapedOpen_int (P:=Tryz.prog) (g:=0) (t:=3) (zero := #[.int .i64 0]) O (of_decide_eq_true (by kernel_rfl)) (by kernel_rfl) rfl (by kernel_rfl) (by kernel_rfl) Tryz.underlying3
 refine (A7 (vals := #[.string a0,.string a1,.string a2,.int .i64 a3,v4]) Tryz.call7 (aG.aF (D1 W) (Fy hm) a0 a1 a2 a3 l4 Eo) ((mH a0 a1 a2 a3 l4 M A _).trans rfl) (I3 ⟨[],_,rfl,⟨rfl,rfl,by simp,rfl⟩,⟨[],_,rfl,⟨rfl,rfl,by simp,rfl⟩,⟨[],_,rfl,⟨rfl,rfl,by simp,rfl⟩,⟨[],_,rfl,⟨rfl,rfl,by simp,rfl⟩,⟨[],_,rfl,Ey y4,rfl⟩⟩⟩⟩⟩ (Fx hm))).mono fun e W' ⟨he,N⟩ => ?_
 subst he
 exact ⟨_,rfl,_,_,_,[],_,[],V,trodAll_mk1 (shut_bool Tryz.underlying4 _),(trodAll_cons_mk (shut_string Tryz.underlying9 y0) (trodAll_cons_mk (shut_string Tryz.underlying9 y1) (trodAll_cons_mk (shut_string Tryz.underlying9 y2) (trodAll_cons_mk (shut_int Tryz.underlying3 y3) (trodAll_cons_mk (yM N (m:=4) (by kernel_rfl) h4) trodAll_mk0))))),rfl,N.frame _,fun h=>by cases h⟩
set_option maxRecDepth 100000 in
theorem lifted (os:Os) (started:os.Started) (H:Type) (enc:TypeId × Value->H) (F:Stop.Interp) :
  ReturnsInHanded {} Tryz.checked os 7 .any ((Rows.OpenSpec.upto Rows.limbSectionsSpec).preRow enc Tryz.prog Tryz.f7 Rows.limbSectionsUptoRow.domain false Rows.limbSectionsUptoRow.laid) (((Rows.OpenSpec.upto Rows.limbSectionsSpec).at F).post enc Tryz.prog Tryz.f7 false true false false):=by
 obtain ⟨places,z⟩:=reads os enc
 refine returnsInHanded_of_row (C:=Tryz.checked) (s:=Rows.OpenSpec.upto Rows.limbSectionsSpec) own started (by kernel_rfl) Tryz.func7
  (witness_row_at (enc:=enc) (C:=Tryz.checked) false (nF os) #[.string ByteArray.empty,.string ByteArray.empty,.string ByteArray.empty,.int .i64 0,.slice none 0 0] rfl (by kernel_rfl) (by kernel_rfl) (by kernel_rfl)
   (OpenSpec.preRow_of_cond 8 z (by kernel_rfl) (fun k j=>by cases j;kernel_rfl) (by kernel_rfl) (Dd os))) ?_
 intro W base args ds gs before f A _ j m M u _
 exact Cr H enc W base args ds gs before f A u m (j _ rfl)
theorem IB {a b:Bool} (h:a=true) (f:b=true):(a&&b)=true:=by rw [h,f];rfl
set_option maxHeartbeats 4000000 in
theorem closed:joinedFacts Tryz.pinned.checked.prog 7 Tryz.f7 (Rows.OpenSpec.upto Rows.limbSectionsSpec).bare Rows.limbSectionsUptoRow=true:=by
 unfold joinedFacts
 repeat' with_reducible refine IB ?_ ?_
 all_goals as_aux_lemma=>kernel_rfl
theorem said:Rows.LimbSectionsUptoSaid:=
 OpenClaim.holds_of_cond 7 Tryz.f7 rfl rfl rfl rfl rfl rfl rfl ⟨rfl,rfl,rfl,rfl,rfl⟩ rfl rfl rfl rfl rfl (by kernel_rfl) Tryz.func7 closed
  (of_decide_eq_true (by kernel_rfl)) (by unfold Func.isWrapper;first|(rw [if_pos (by decide +kernel)];kernel_rfl)|(rw [if_neg (by decide +kernel)];exact ⟨rfl,rfl⟩))
  (fun os started H enc _ F=>by rw [OpenClaim.pre_eq_preRow];exact lifted os started H enc F)
theorem plain (f:FuncId) (fn:Func) (z:Tryz.pinned.checked.prog.funcNamed Rows.limbSectionsUptoRow.func=some f) (u:Tryz.pinned.checked.prog.funcs[f]? = some fn) :
  false=Tryz.pinned.checked.prog.looks []/\∀ (j:Nat) t,fn.params[j]? = some t->Tryz.pinned.checked.prog.wantsStandIn t=false:=by
 obtain rfl:f=7:=Option.some.inj (HL.symm.trans z) |>.symm
 obtain rfl:fn=Tryz.f7:=(Option.some.inj (Tryz.func7.symm.trans u)).symm
 refine ⟨by kernel_rfl,fun j t A => ?_⟩
 have hm:t∈Tryz.f7.params.toList:=Array.mem_toList_iff.2 (Array.mem_of_getElem? A)
 have m:Tryz.f7.params.toList.all (fun t => !Tryz.prog.wantsStandIn t)=true:=by kernel_rfl
 have:=List.all_eq_true.1 m t hm
 show Tryz.prog.wantsStandIn t=false
 simpa using this
theorem card:Rows.LimbSectionsUptoCardSaid:=
 Claim7.holds_tied_plain_at .later [] _ _ _ _ said (fun _ h=>by cases h) (by kernel_rfl) (fun _ h=>by cases h) limbSectionsUpto_row_tie rfl ⟨rfl,rfl⟩ (by kernel_rfl) rfl plain (by kernel_rfl)
end Go.Proofs.YtneffefnlogkaaaGreatDoor.limbSections
namespace Go.Proofs.YtneffefnlogkaaaGreatDoor
theorem limbSections_holds:Rows.LimbSectionsUptoCardSaid:=limbSections.card
#print axioms limbSections_holds
end Go.Proofs.YtneffefnlogkaaaGreatDoor
