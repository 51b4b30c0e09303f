/-
  CheckMatchesModel, the second form: for nodes and choices of bulk at most 1048576 the statement returns true, where the listed package variables hold what the program's text lays; the card ties them to it.
-/
import Derived.Test.YtphdhedhhlfepaaGreatDoorCzC34
import Derived.Test.YtphdhedhhlfepaaGreatDoorCzC45
import Derived.Test.YtphdhedhhlfepaaGreatDoorCzC41
import Derived.Deep.DeepHandedRow
import Derived.Test.YtphdhedhhlfepaaGreatDoorCards
import Derived.Test.YtphdhedhhlfepaaGreatDoorTie
import Derived.SevenTiedAt
set_option linter.unusedSimpArgs false
set_option linter.unusedVariables false
namespace Go.Proofs.YtphdhedhhlfepaaGreatDoor
open Go Ab
open Go.ChangeShapes Go.WideShapes Go.ChangeAt Go.RowKit
set_option maxRecDepth 100000
namespace CheckMatchesModel
theorem reads (os:Os) {H:Type} (enc:TypeId×Value→H):∃ places,DataW.whole enc Tryz.prog ((World.laidAll Tryz.prog os Rows.checkMatchesModelUptoRow.laid).forCall (fun _ _=>0) ⟨#[],#[.slice none 0 0,.slice none 0 0],[]⟩).memory Tryz.f3.params.toList Rows.checkMatchesModelSpec.vars false #[Value.slice none 0 0,.slice none 0 0].toList 8=some ([.nil,.nil],[],places):=
 ⟨[],by kernel_rfl⟩
set_option maxHeartbeats 4000000 in
theorem lifted (os:Os) (started:os.Started) (H:Type) (enc:TypeId×Value→H) (F:Stop.Interp):
 ReturnsInHanded {} Tryz.checked os 3 .any ((Rows.OpenSpec.upto Rows.checkMatchesModelSpec).preRow enc Tryz.prog Tryz.f3 Rows.checkMatchesModelUptoRow.domain false Rows.checkMatchesModelUptoRow.laid) (((Rows.OpenSpec.upto Rows.checkMatchesModelSpec).at F).post enc Tryz.prog Tryz.f3 false true false false):=by
 obtain⟨places,hx⟩:=reads os enc
 have hok:Input.okWideB Tryz.prog ((World.laidAll Tryz.prog os Rows.checkMatchesModelUptoRow.laid).forCall (fun _ _=>0) ⟨#[],#[.slice none 0 0,.slice none 0 0],[]⟩) 3 ⟨#[],#[.slice none 0 0,.slice none 0 0],[]⟩=true:=by kernel_rfl
 refine returnsInHanded_of_row (C:=Tryz.checked) (s:=Rows.OpenSpec.upto Rows.checkMatchesModelSpec) own started (by kernel_rfl) Tryz.func3
  ⟨World.laidAll Tryz.prog os Rows.checkMatchesModelUptoRow.laid,fun _ _=>0,⟨#[],#[.slice none 0 0,.slice none 0 0],[]⟩,World.laidAll_os _ _ _,World.shaped_of_ZipB (by kernel_rfl) (by kernel_rfl),(Input.okWide_of_okWideB (base:=0) hok).1,(Input.okWide_of_okWideB hok).2,
   OpenSpec.preRow_of_cond 8 hx (by kernel_rfl) (fun k hk=>by cases hk;kernel_rfl) (by kernel_rfl) (by rw[MakeChecks.laidMetH_plain _ _ _ (by kernel_rfl)];exact laidMet_laidAll _ (by kernel_rfl) (by kernel_rfl)),
   by simp only[Assume.holds];exact⟨by simp,by simp,fun _=>Modest.zero,by simp,by simp⟩⟩ ?_
 intro W base args ds gs before hval0 hW _ hcond hsz hL hS _;rw[MakeChecks.laidMetH_plain _ _ _ (by kernel_rfl)] at hL;have hval:∀ (j:Nat) t v,Tryz.f3.params[j]? =some t→args[j]? =some v→Value.okWide Tryz.prog W .any base t v:=hval0;have hW':=hW;obtain⟨p,q,hA0,hV,rfl,hfz,hnd⟩:=hW;have hA:DataW.TrodAll enc Tryz.prog W 0 (fun _=>true) true Tryz.f3.params.toList args.toList ds p:=hA0;rw[Tryz.params3] at hA hval;obtain⟨v0,vs0,d0,ds0,p0,q0,hargs,rfl,rfl,h0,r0⟩:=trodAll_cons hA;obtain⟨v1,vs1,d1,ds1,p1,q1,rfl,rfl,rfl,h1,r1⟩:=trodAll_cons r0;obtain⟨rfl,rfl,rfl⟩:=trodAll_nil r1
 obtain rfl:args= #[v0,v1]:=by cases args;simp_all
 obtain⟨rfl,rfl⟩:=trodVars_none hV
 have lt0:∀ x∈p0,x.block<W.heap.size:=by obtain⟨m,hm⟩:=h0;exact DataW.trod_lt m _ _ _ hm
 have lt1:∀ x∈p1,x.block<W.heap.size:=by obtain⟨m,hm⟩:=h1;exact DataW.trod_lt m _ _ _ hm
 have hws:(DataW.weightsEach Tryz.prog [22,23] [d0,d1]).all (·≤reachBytes)=true:=by
  have h:=hsz;rw[Tryz.params3] at h;exact h
 simp only[DataW.weightsEach,List.all_append,List.all_nil,Bool.and_eq_true,and_true] at hws;have hbk:Rows.uptoBulkAll ([d0,d1]++[])≤1048576:=of_decide_eq_true (hcond _ rfl);simp only[List.append_nil,Rows.uptoBulkAll] at hbk;obtain⟨l0,hl0,-,hi0,hu0⟩:=open_nodesU (hval 0 22 v0 rfl rfl) h0 hws.1;obtain⟨l1,hl1,hb1⟩:=open_ints (hval 1 23 v1 rfl rfl) h1 hws.2
 have hwS:wfS l0:=fun x hx=>by have:=hu0 x hx;omega
 clear hA0 hval0
 refine (SC.law (φ:=phW W) (xs:=[v0,v1]) (model_c l0 hwS hi0 l1 hb1).2 no_ro ⟨hl0,hl1,trivial⟩ (phW_good (globals_gz hS hL)) (fun _ _=>rfl)).mono fun e W' ⟨he,bel⟩=>?_
 subst he
 exact⟨_,rfl,_,_,_,[],_,[],hW',trodAll_mk1 (shut_bool Tryz.underlying4 _),
  (trodAll_cons_mk (Below.trod laidOut (by kernel_rfl) (of_decide_eq_true (by kernel_rfl)) h0 bel lt0) (trodAll_cons_mk (Below.trod laidOut (by kernel_rfl) (of_decide_eq_true (by kernel_rfl)) h1 bel lt1) trodAll_mk0)),rfl,bel.frame _,fun h=>by cases h⟩
theorem over:Rows.CheckMatchesModelUptoSaid:=
 OpenClaim.holds_of_cond 3 Tryz.f3 rfl rfl rfl rfl rfl rfl rfl ⟨rfl,rfl,rfl,rfl,rfl⟩ rfl rfl rfl rfl rfl (by kernel_rfl) Tryz.func3 (by kernel_rfl)
  (of_decide_eq_true (by kernel_rfl)) (by unfold Func.isWrapper;first|(rw[if_pos (by decide+kernel)];kernel_rfl)|(rw[if_neg (by decide+kernel)];exact⟨rfl,rfl⟩))
  (fun os started H enc _ F=>by rw[OpenClaim.pre_eq_preRow];exact lifted os started H enc F)
theorem card:Rows.CheckMatchesModelUptoCardSaid:=
 Claim7.holds_tied_plain_at .later [] _ _ _ _ over (fun _ h=>by cases h) (by kernel_rfl) (fun _ h=>by cases h) checkMatchesModelUpto_row_tie rfl ⟨rfl,rfl⟩ (by kernel_rfl) rfl
  (fun f fn hf hfn=>by
    obtain rfl : f = 3 := Option.some.inj ((show Tryz.prog.funcNamed "platformfw/platformfwlaw04.CheckMatchesModel" = some 3 by kernel_rfl).symm.trans hf) |>.symm
    obtain rfl:fn=Tryz.f3:=(Option.some.inj (Tryz.func3.symm.trans hfn)).symm
    exact⟨by kernel_rfl,fun j t ht=>by
     rw[Tryz.params3] at ht
     have hm:t∈[22,23]:=by simpa using Array.mem_of_getElem? ht
     have hall:([22,23].all fun u=> !Tryz.prog.wantsStandIn u)=true:=by kernel_rfl
     exact (show Tryz.prog.wantsStandIn t=false by simpa using List.all_eq_true.1 hall t hm)⟩)
  (by kernel_rfl)
end CheckMatchesModel
theorem checkMatchesModelUpto:Rows.CheckMatchesModelUptoCardSaid:=CheckMatchesModel.card
end Go.Proofs.YtphdhedhhlfepaaGreatDoor
