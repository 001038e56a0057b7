/- The law is true for every input (no condition). -/
import Derived.Test.YtneffefnlogkaaaGreatDoorCheck4
import Derived.Test.YtneffefnlogkaaaGreatDoorPlainBLimbFindsUptoCardSaid
import Derived.Test.YtneffefnlogkaaaGreatDoorCards
import Derived.Test.YtneffefnlogkaaaGreatDoorTie
import Derived.WalkKit
import Derived.ProofKit
import Derived.OpenShut
import Derived.ShutString
import Derived.Deep.DeepHandedRow
import Derived.Lib.LaidTab
import Derived.Shelf.Vars
set_option linter.unusedVariables false
set_option linter.unusedSimpArgs false
set_option maxRecDepth 4000
namespace Go.Proofs.YtneffefnlogkaaaGreatDoor.limbFinds
open Go.ChangeShapes Go.WideShapes Go.ChangeAt Go.RowKit Go.Proofs.Ab
open Go.ChangeMaps (open_string shut_string)
theorem own:ownKnob Tryz.prog.godebug=none:=by kernel_rfl
theorem Gr:Tryz.prog.funcNamed Rows.limbFindsUptoRow.func=some 6:=by kernel_rfl
noncomputable def m7 (os:Os):World :=
 va (va (va (va (va (World.holding Tryz.prog os ⟨#[],#[],[]⟩) 1 (Pinned.utf8FirstZ.map fun (n:Nat)=>Value.int .u8 (n:Int)).toArray) 2 #[.int .u8 128,.int .u8 191,.int .u8 160,.int .u8 191,.int .u8 128,.int .u8 159,.int .u8 144,.int .u8 191,.int .u8 128,.int .u8 143,.int .u8 0,.int .u8 0,.int .u8 0,.int .u8 0,.int .u8 0,.int .u8 0,.int .u8 0,.int .u8 0,.int .u8 0,.int .u8 0,.int .u8 0,.int .u8 0,.int .u8 0,.int .u8 0,.int .u8 0,.int .u8 0,.int .u8 0,.int .u8 0,.int .u8 0,.int .u8 0,.int .u8 0,.int .u8 0]) 3 #[.int .u64 1,.int .u64 10,.int .u64 100,.int .u64 1000,.int .u64 10000,.int .u64 100000,.int .u64 1000000,.int .u64 10000000,.int .u64 100000000,.int .u64 1000000000,.int .u64 10000000000,.int .u64 100000000000,.int .u64 1000000000000,.int .u64 10000000000000,.int .u64 100000000000000,.int .u64 1000000000000000,.int .u64 10000000000000000,.int .u64 100000000000000000,.int .u64 1000000000000000000,.int .u64 10000000000000000000]) 4 #[.int .u8 0,.int .u8 1,.int .u8 28,.int .u8 2,.int .u8 29,.int .u8 14,.int .u8 24,.int .u8 3,.int .u8 30,.int .u8 22,.int .u8 20,.int .u8 15,.int .u8 25,.int .u8 17,.int .u8 4,.int .u8 8,.int .u8 31,.int .u8 27,.int .u8 13,.int .u8 23,.int .u8 21,.int .u8 19,.int .u8 16,.int .u8 7,.int .u8 26,.int .u8 12,.int .u8 18,.int .u8 6,.int .u8 11,.int .u8 5,.int .u8 10,.int .u8 9]) 5 #[.int .u8 0,.int .u8 1,.int .u8 56,.int .u8 2,.int .u8 57,.int .u8 49,.int .u8 28,.int .u8 3,.int .u8 61,.int .u8 58,.int .u8 42,.int .u8 50,.int .u8 38,.int .u8 29,.int .u8 17,.int .u8 4,.int .u8 62,.int .u8 47,.int .u8 59,.int .u8 36,.int .u8 45,.int .u8 43,.int .u8 51,.int .u8 22,.int .u8 53,.int .u8 39,.int .u8 33,.int .u8 30,.int .u8 24,.int .u8 18,.int .u8 12,.int .u8 5,.int .u8 63,.int .u8 55,.int .u8 48,.int .u8 27,.int .u8 60,.int .u8 41,.int .u8 37,.int .u8 16,.int .u8 46,.int .u8 35,.int .u8 44,.int .u8 21,.int .u8 52,.int .u8 32,.int .u8 23,.int .u8 11,.int .u8 54,.int .u8 26,.int .u8 40,.int .u8 15,.int .u8 34,.int .u8 20,.int .u8 31,.int .u8 10,.int .u8 25,.int .u8 14,.int .u8 19,.int .u8 9,.int .u8 13,.int .u8 8,.int .u8 7,.int .u8 6]
theorem B6 (os:Os):laidMet Tryz.prog Rows.limbFindsUptoRow.laid ((m7 os).forCall (fun _ _=>0) ⟨#[],#[.string ByteArray.empty,.string ByteArray.empty],[]⟩).memory :=
 laidMet_of_run' 8 (by kernel_rfl) (by kernel_rfl)
theorem reads (os:Os) {H:Type} (enc:TypeId × Value->H):∃ places,DataW.whole enc Tryz.prog ((m7 os).forCall (fun _ _=>0) ⟨#[],#[.string ByteArray.empty,.string ByteArray.empty],[]⟩).memory Tryz.f6.params.toList Rows.limbFindsSpec.vars false (#[Value.string ByteArray.empty,Value.string ByteArray.empty]:Array Value).toList 8=some ([.lit (.string []),.lit (.string [])],[],places) :=
 ⟨[],by kernel_rfl⟩
theorem Bq (H:Type) (enc:TypeId × Value->H) (W:World) (base:Nat) (args:Array Value) (ds gs:List (DataW H)) (before:List MemPlace)
  (u:∀ (j:Nat) t v,Tryz.f6.params[j]? = some t->args[j]? = some v->Value.okWide Tryz.prog W .any base t v)
  (X:DataW.Whole enc Tryz.prog Tryz.f6.params.toList Rows.limbFindsSpec.vars false W args.toList ds gs before) (M:W.ShapedOpen Tryz.prog) (hk:Rows.uptoSmall H (ds++gs)=true) :
  Calls Tryz.prog 6 args W fun e Y=>∃ v,e = .returned v/\Rows.limbFindsSpec.post enc Tryz.prog Tryz.f6 false true false false W args v Y:=by
 have f:∀ (j:Nat) t v,Tryz.f6.params[j]? = some t->args[j]? = some v->Value.okWide Tryz.prog W .any base t v:=u
 have N:=X
 obtain ⟨p,q,z,hV,rfl,ad,ae⟩:=X
 have hA:DataW.TrodAll enc Tryz.prog W 0 (fun _=>true) true Tryz.f6.params.toList args.toList ds p:=z
 rw [Tryz.params6] at hA f
 obtain ⟨v0,ap,d0,ar,p0,q0,O,rfl,rfl,h0,r0⟩:=trodAll_cons hA
 obtain ⟨v1,ax,d1,a6,p1,q1,rfl,rfl,rfl,h1,r1⟩:=trodAll_cons r0
 obtain ⟨rfl,rfl,rfl⟩:=trodAll_nil r1
 obtain rfl:args = #[v0,v1]:=by cases args;simp_all
 obtain ⟨rfl,rfl⟩:=trodVars_none hV
 obtain ⟨a0,rfl,rfl,rfl,y0⟩:=open_string Tryz.underlying9 (f 0 9 v0 rfl rfl) h0
 obtain ⟨a1,rfl,rfl,rfl,y1⟩:=open_string Tryz.underlying9 (f 1 9 v1 rfl rfl) h1
 clear z
 have U:=of_decide_eq_true hk
 simp only [List.append_nil,List.cons_append,List.nil_append,Rows.uptoBulkAll,Rows.uptoBulk,Array.length_toList] at U
 have A:a1.size<=10000000:=by have:a1.data.size=a1.size:=rfl;omega
 obtain ⟨m,hm⟩:=cell_of_shapedOpen_int (P:=Tryz.prog) (g:=0) (t:=3) (zero := #[.int .i64 0]) M (of_decide_eq_true (by kernel_rfl)) (by kernel_rfl) rfl (by kernel_rfl) (by kernel_rfl) Tryz.underlying3
 refine (Ad (vals := #[.string a0,.string a1]) Tryz.call6 (bp.aG (CN W) (D9 hm) a0 a1 Da) ((pB a0 a1 (A) _).trans rfl) (HD (Ra:=fun b=>b=0) ⟨[],_,rfl,⟨rfl,rfl,by simp,rfl⟩,⟨[],[],rfl,⟨rfl,rfl,by simp,rfl⟩,rfl⟩⟩ (yZ hm) (fun b hb=>by rw [hb];exact yZ hm) rfl)).mono fun e Y ⟨he,V⟩ => ?_
 subst he
 exact ⟨_,rfl,_,_,_,[],_,[],N,trodAll_mk1 (shut_bool Tryz.underlying4 _),(trodAll_cons_mk (shut_string Tryz.underlying9 y0) (trodAll_cons_mk (shut_string Tryz.underlying9 y1) trodAll_mk0)),rfl,V.frame _,fun h=>by cases h⟩
set_option maxRecDepth 100000 in
theorem lifted (os:Os) (started:os.Started) (H:Type) (enc:TypeId × Value->H) (F:Stop.Interp) :
  ReturnsInHanded {} Tryz.checked os 6 .any ((Rows.OpenSpec.upto Rows.limbFindsSpec).preRow enc Tryz.prog Tryz.f6 Rows.limbFindsUptoRow.domain false Rows.limbFindsUptoRow.laid) (((Rows.OpenSpec.upto Rows.limbFindsSpec).at F).post enc Tryz.prog Tryz.f6 false true false false):=by
 obtain ⟨places,u⟩:=reads os enc
 refine returnsInHanded_of_row (C:=Tryz.checked) (s:=Rows.OpenSpec.upto Rows.limbFindsSpec) own started (by kernel_rfl) Tryz.func6
  (witness_row_at (enc:=enc) (C:=Tryz.checked) false (m7 os) #[.string ByteArray.empty,.string ByteArray.empty] rfl (by kernel_rfl) (by kernel_rfl) (by kernel_rfl)
   (OpenSpec.preRow_of_cond 8 u (by kernel_rfl) (fun k j=>by cases j;kernel_rfl) (by kernel_rfl) (B6 os))) ?_
 intro W base args ds gs before f z _ j _ A m _
 exact Bq H enc W base args ds gs before f z m (j _ rfl)
theorem Hi {a b:Bool} (h:a=true) (f:b=true):(a&&b)=true:=by rw [h,f];rfl
set_option maxHeartbeats 4000000 in
theorem closed:joinedFacts Tryz.pinned.checked.prog 6 Tryz.f6 (Rows.OpenSpec.upto Rows.limbFindsSpec).bare Rows.limbFindsUptoRow=true:=by
 unfold joinedFacts
 repeat' with_reducible refine Hi ?_ ?_
 all_goals as_aux_lemma=>kernel_rfl
theorem said:Rows.LimbFindsUptoSaid :=
 OpenClaim.holds_of_cond 6 Tryz.f6 rfl rfl rfl rfl rfl rfl rfl ⟨rfl,rfl,rfl,rfl,rfl⟩ rfl rfl rfl rfl rfl (by kernel_rfl) Tryz.func6 closed
  (of_decide_eq_true (by kernel_rfl)) (by unfold Func.isWrapper;first|(rw [if_pos (by decide +kernel)];kernel_rfl)|(rw [if_neg (by decide +kernel)];exact ⟨rfl,rfl⟩))
  (fun os started H enc _ F=>by rw [OpenClaim.pre_eq_preRow];exact lifted os started H enc F)
theorem plain (f:FuncId) (fn:Func) (z:Tryz.pinned.checked.prog.funcNamed Rows.limbFindsUptoRow.func=some f) (u:Tryz.pinned.checked.prog.funcs[f]? = some fn) :
  false=Tryz.pinned.checked.prog.looks []/\∀ (j:Nat) t,fn.params[j]? = some t->Tryz.pinned.checked.prog.wantsStandIn t=false:=by
 obtain rfl:f=6:=Option.some.inj (Gr.symm.trans z) |>.symm
 obtain rfl:fn=Tryz.f6:=(Option.some.inj (Tryz.func6.symm.trans u)).symm
 refine ⟨by kernel_rfl,fun j t A => ?_⟩
 have hm:t∈Tryz.f6.params.toList:=Array.mem_toList_iff.2 (Array.mem_of_getElem? A)
 have m:Tryz.f6.params.toList.all (fun t => !Tryz.prog.wantsStandIn t)=true:=by kernel_rfl
 have:=List.all_eq_true.1 m t hm
 show Tryz.prog.wantsStandIn t=false
 simpa using this
theorem card:Rows.LimbFindsUptoCardSaid :=
 Claim7.holds_tied_plain_at .later [] _ _ _ _ said (fun _ h=>by cases h) (by kernel_rfl) (fun _ h=>by cases h) limbFindsUpto_row_tie rfl ⟨rfl,rfl⟩ (by kernel_rfl) rfl plain (by kernel_rfl)
end Go.Proofs.YtneffefnlogkaaaGreatDoor.limbFinds
namespace Go.Proofs.YtneffefnlogkaaaGreatDoor
theorem limbFinds_holds:Rows.LimbFindsUptoCardSaid:=limbFinds.card
#print axioms limbFinds_holds
end Go.Proofs.YtneffefnlogkaaaGreatDoor
