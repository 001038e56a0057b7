/- The law is true for every input (no condition). -/
import Derived.Test.YtneffefnlogkaaaDoorCheck2
import Derived.Test.YtneffefnlogkaaaDoorPlainBLimbMultipartsCardSaid
import Derived.Test.YtneffefnlogkaaaDoorCards
import Derived.Test.YtneffefnlogkaaaDoorTie
import Derived.WalkKit
import Derived.ProofKit
import Derived.OpenShut
import Derived.ShutString
import Derived.Deep.DeepHandedRow
import Derived.Lib.LaidTab
import Derived.Shelf.Vars
set_option linter.unusedVariables false
set_option linter.unusedSimpArgs false
set_option maxRecDepth 4000
namespace Go.Proofs.YtneffefnlogkaaaDoor.limbMultiparts
open Go.ChangeShapes Go.WideShapes Go.ChangeAt Go.RowKit Go.Proofs.Ab
open Go.ChangeMaps (open_string shut_string)
theorem own:ownKnob Tryd.prog.godebug=none:=by kernel_rfl
theorem D3:Tryd.prog.funcNamed Rows.limbMultipartsRow.func=some 5:=by kernel_rfl
noncomputable def ly (os:Os):World :=
 sH (sH (sH (sH (sH (World.holding Tryd.prog os ⟨#[],#[],[]⟩) 1 (Pinned.utf8FirstZ.map fun (n:Nat)=>Value.int .u8 (n:Int)).toArray) 2 #[.int .u8 128,.int .u8 191,.int .u8 160,.int .u8 191,.int .u8 128,.int .u8 159,.int .u8 144,.int .u8 191,.int .u8 128,.int .u8 143,.int .u8 0,.int .u8 0,.int .u8 0,.int .u8 0,.int .u8 0,.int .u8 0,.int .u8 0,.int .u8 0,.int .u8 0,.int .u8 0,.int .u8 0,.int .u8 0,.int .u8 0,.int .u8 0,.int .u8 0,.int .u8 0,.int .u8 0,.int .u8 0,.int .u8 0,.int .u8 0,.int .u8 0,.int .u8 0]) 3 #[.int .u64 1,.int .u64 10,.int .u64 100,.int .u64 1000,.int .u64 10000,.int .u64 100000,.int .u64 1000000,.int .u64 10000000,.int .u64 100000000,.int .u64 1000000000,.int .u64 10000000000,.int .u64 100000000000,.int .u64 1000000000000,.int .u64 10000000000000,.int .u64 100000000000000,.int .u64 1000000000000000,.int .u64 10000000000000000,.int .u64 100000000000000000,.int .u64 1000000000000000000,.int .u64 10000000000000000000]) 4 #[.int .u8 0,.int .u8 1,.int .u8 28,.int .u8 2,.int .u8 29,.int .u8 14,.int .u8 24,.int .u8 3,.int .u8 30,.int .u8 22,.int .u8 20,.int .u8 15,.int .u8 25,.int .u8 17,.int .u8 4,.int .u8 8,.int .u8 31,.int .u8 27,.int .u8 13,.int .u8 23,.int .u8 21,.int .u8 19,.int .u8 16,.int .u8 7,.int .u8 26,.int .u8 12,.int .u8 18,.int .u8 6,.int .u8 11,.int .u8 5,.int .u8 10,.int .u8 9]) 5 #[.int .u8 0,.int .u8 1,.int .u8 56,.int .u8 2,.int .u8 57,.int .u8 49,.int .u8 28,.int .u8 3,.int .u8 61,.int .u8 58,.int .u8 42,.int .u8 50,.int .u8 38,.int .u8 29,.int .u8 17,.int .u8 4,.int .u8 62,.int .u8 47,.int .u8 59,.int .u8 36,.int .u8 45,.int .u8 43,.int .u8 51,.int .u8 22,.int .u8 53,.int .u8 39,.int .u8 33,.int .u8 30,.int .u8 24,.int .u8 18,.int .u8 12,.int .u8 5,.int .u8 63,.int .u8 55,.int .u8 48,.int .u8 27,.int .u8 60,.int .u8 41,.int .u8 37,.int .u8 16,.int .u8 46,.int .u8 35,.int .u8 44,.int .u8 21,.int .u8 52,.int .u8 32,.int .u8 23,.int .u8 11,.int .u8 54,.int .u8 26,.int .u8 40,.int .u8 15,.int .u8 34,.int .u8 20,.int .u8 31,.int .u8 10,.int .u8 25,.int .u8 14,.int .u8 19,.int .u8 9,.int .u8 13,.int .u8 8,.int .u8 7,.int .u8 6]
theorem zm (os:Os):laidMet Tryd.prog Rows.limbMultipartsRow.laid ((ly os).forCall (fun _ _=>0) ⟨#[],#[.slice none 0 0,.string ByteArray.empty,.string ByteArray.empty,.string ByteArray.empty,.bool false],[]⟩).memory :=
 laidMet_of_run' 8 (by kernel_rfl) (by kernel_rfl)
theorem reads (os:Os) {H:Type} (enc:TypeId × Value->H):∃ places,DataW.whole enc Tryd.prog ((ly os).forCall (fun _ _=>0) ⟨#[],#[.slice none 0 0,.string ByteArray.empty,.string ByteArray.empty,.string ByteArray.empty,.bool false],[]⟩).memory Tryd.f5.params.toList Rows.limbMultipartsSpec.vars false (#[Value.slice none 0 0,Value.string ByteArray.empty,Value.string ByteArray.empty,Value.string ByteArray.empty,Value.bool false]:Array Value).toList 8=some ([.nil,.lit (.string []),.lit (.string []),.lit (.string []),.lit (.bool false)],[],places) :=
 ⟨[],by kernel_rfl⟩
theorem yC (H:Type) (enc:TypeId × Value->H) (W:World) (base:Nat) (args:Array Value) (ds gs:List (DataW H)) (before:List MemPlace)
  (hval0:∀ (j:Nat) t v,Tryd.f5.params[j]? = some t->args[j]? = some v->Value.okWide Tryd.prog W .any base t v)
  (hW:DataW.Whole enc Tryd.prog Tryd.f5.params.toList Rows.limbMultipartsSpec.vars false W args.toList ds gs before) (hsh:W.ShapedOpen Tryd.prog) :
  Calls Tryd.prog 5 args W fun e W'=>∃ v,e = .returned v/\Rows.limbMultipartsSpec.post enc Tryd.prog Tryd.f5 false true false false W args v W':=by
 have hval:∀ (j:Nat) t v,Tryd.f5.params[j]? = some t->args[j]? = some v->Value.okWide Tryd.prog W .any base t v:=hval0
 have hW':=hW
 obtain ⟨p,q,hA0,hV,rfl,hfz,hnd⟩:=hW
 have hA:DataW.TrodAll enc Tryd.prog W 0 (fun _=>true) true Tryd.f5.params.toList args.toList ds p:=hA0
 rw [Tryd.params5] at hA hval
 obtain ⟨v0,vs0,d0,ds0,p0,q0,hargs,rfl,rfl,h0,r0⟩:=trodAll_cons hA
 obtain ⟨v1,vs1,d1,ds1,p1,q1,rfl,rfl,rfl,h1,r1⟩:=trodAll_cons r0
 obtain ⟨v2,vs2,d2,ds2,p2,q2,rfl,rfl,rfl,h2,r2⟩:=trodAll_cons r1
 obtain ⟨v3,vs3,d3,ds3,p3,q3,rfl,rfl,rfl,h3,r3⟩:=trodAll_cons r2
 obtain ⟨v4,vs4,d4,ds4,p4,q4,rfl,rfl,rfl,h4,r4⟩:=trodAll_cons r3
 obtain ⟨rfl,rfl,rfl⟩:=trodAll_nil r4
 obtain rfl:args = #[v0,v1,v2,v3,v4]:=by cases args;simp_all
 obtain ⟨rfl,rfl⟩:=trodVars_none hV
 obtain ⟨l0,y0⟩:=xv (T:=al bN) 3 (e:=9) (by kernel_rfl) Tryd.underlying26 (hval 0 26 v0 rfl rfl) h0
 obtain ⟨a1,rfl,rfl,rfl,y1⟩:=open_string Tryd.underlying9 (hval 1 9 v1 rfl rfl) h1
 obtain ⟨a2,rfl,rfl,rfl,y2⟩:=open_string Tryd.underlying9 (hval 2 9 v2 rfl rfl) h2
 obtain ⟨a3,rfl,rfl,rfl,y3⟩:=open_string Tryd.underlying9 (hval 3 9 v3 rfl rfl) h3
 obtain ⟨a4,rfl,rfl,rfl⟩:=open_bool Tryd.underlying4 (hval 4 4 v4 rfl rfl) h4
 clear hA0
 obtain ⟨m,hm⟩:=cell_of_shapedOpen_int (P:=Tryd.prog) (g:=0) (t:=3) (zero := #[.int .i64 0]) hsh (of_decide_eq_true (by kernel_rfl)) (by kernel_rfl) rfl (by kernel_rfl) (by kernel_rfl) Tryd.underlying3
 refine (xj (vals := #[v0,.string a1,.string a2,.string a3,.bool a4]) Tryd.call5 (ab.aX (zW W) (Bv hm) l0 a1 a2 a3 a4 At) ((jg l0 a1 a2 a3 a4 _).trans rfl) (Fb ⟨[],_,rfl,AE y0,⟨[],_,rfl,⟨rfl,rfl,by simp,rfl⟩,⟨[],_,rfl,⟨rfl,rfl,by simp,rfl⟩,⟨[],_,rfl,⟨rfl,rfl,by simp,rfl⟩,⟨[],[],rfl,⟨rfl,rfl,by simp,rfl⟩,rfl⟩⟩⟩⟩⟩ (Bu hm))).mono fun e W' ⟨he,bel⟩ => ?_
 subst he
 exact ⟨_,rfl,_,_,_,[],_,[],hW',trodAll_mk1 (shut_bool Tryd.underlying4 _),(trodAll_cons_mk (vd bel (m:=4) (by kernel_rfl) h0) (trodAll_cons_mk (shut_string Tryd.underlying9 y1) (trodAll_cons_mk (shut_string Tryd.underlying9 y2) (trodAll_cons_mk (shut_string Tryd.underlying9 y3) (trodAll_cons_mk (shut_bool Tryd.underlying4 _) trodAll_mk0))))),rfl,bel.frame _,fun h=>by cases h⟩
set_option maxRecDepth 100000 in
theorem lifted (os:Os) (started:os.Started) (H:Type) (enc:TypeId × Value->H) (F:Stop.Interp) :
  ReturnsInHanded {} Tryd.checked os 5 .any ((OpenSpec.ofChange Rows.limbMultipartsSpec).preRow enc Tryd.prog Tryd.f5 Rows.limbMultipartsRow.domain false Rows.limbMultipartsRow.laid) (((OpenSpec.ofChange Rows.limbMultipartsSpec).at F).post enc Tryd.prog Tryd.f5 false true false false):=by
 obtain ⟨places,hx⟩:=reads os enc
 refine returnsInHanded_of_row (C:=Tryd.checked) (s:=OpenSpec.ofChange Rows.limbMultipartsSpec) own started (by kernel_rfl) Tryd.func5
  (witness_row_at (enc:=enc) (C:=Tryd.checked) false (ly os) #[.slice none 0 0,.string ByteArray.empty,.string ByteArray.empty,.string ByteArray.empty,.bool false] rfl (by kernel_rfl) (by kernel_rfl) (by kernel_rfl)
   (OpenSpec.preRow_of_cond 8 hx (by kernel_rfl) (fun k hk=>by cases hk) (by kernel_rfl) (zm os))) ?_
 intro W base args ds gs before hval hW _ _ _ hL hsh _
 exact yC H enc W base args ds gs before hval hW hsh
theorem ET {a b:Bool} (h:a=true) (h2:b=true):(a&&b)=true:=by rw [h,h2];rfl
set_option maxHeartbeats 4000000 in
theorem closed:joinedFacts Tryd.pinned.checked.prog 5 Tryd.f5 (OpenSpec.ofChange Rows.limbMultipartsSpec).bare Rows.limbMultipartsRow=true:=by
 unfold joinedFacts
 repeat' with_reducible refine ET ?_ ?_
 all_goals as_aux_lemma=>kernel_rfl
theorem said:Rows.LimbMultipartsSaid :=
 OpenClaim.holds_of_cond 5 Tryd.f5 rfl rfl rfl rfl rfl rfl rfl ⟨rfl,rfl,rfl,rfl,rfl⟩ rfl rfl rfl rfl rfl (by kernel_rfl) Tryd.func5 closed
  (of_decide_eq_true (by kernel_rfl)) (by unfold Func.isWrapper;first|(rw [if_pos (by decide +kernel)];kernel_rfl)|(rw [if_neg (by decide +kernel)];exact ⟨rfl,rfl⟩))
  (fun os started H enc _ F=>by rw [OpenClaim.pre_eq_preRow];exact lifted os started H enc F)
theorem plain (f:FuncId) (fn:Func) (hf:Tryd.pinned.checked.prog.funcNamed Rows.limbMultipartsRow.func=some f) (hfn:Tryd.pinned.checked.prog.funcs[f]? = some fn) :
  false=Tryd.pinned.checked.prog.looks []/\∀ (j:Nat) t,fn.params[j]? = some t->Tryd.pinned.checked.prog.wantsStandIn t=false:=by
 obtain rfl:f=5:=Option.some.inj (D3.symm.trans hf) |>.symm
 obtain rfl:fn=Tryd.f5:=(Option.some.inj (Tryd.func5.symm.trans hfn)).symm
 refine ⟨by kernel_rfl,fun j t ht => ?_⟩
 have hm:t∈Tryd.f5.params.toList:=Array.mem_toList_iff.2 (Array.mem_of_getElem? ht)
 have hall:Tryd.f5.params.toList.all (fun t => !Tryd.prog.wantsStandIn t)=true:=by kernel_rfl
 have:=List.all_eq_true.1 hall t hm
 show Tryd.prog.wantsStandIn t=false
 simpa using this
theorem card:Rows.LimbMultipartsCardSaid :=
 Claim7.holds_tied_plain_at .later [] _ _ _ _ said (fun _ h=>by cases h) (by kernel_rfl) (fun _ h=>by cases h) limbMultiparts_row_tie rfl ⟨rfl,rfl⟩ (by kernel_rfl) rfl plain (by kernel_rfl)
end Go.Proofs.YtneffefnlogkaaaDoor.limbMultiparts
namespace Go.Proofs.YtneffefnlogkaaaDoor
theorem limbMultiparts_holds:Rows.LimbMultipartsCardSaid:=limbMultiparts.card
#print axioms limbMultiparts_holds
end Go.Proofs.YtneffefnlogkaaaDoor
