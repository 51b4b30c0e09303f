/-
  CheckNames: for all arguments the statement returns true, where the listed package variables hold what the program's text lays; the card ties them to it.
-/
import Derived.Test.YtphdhedhhlfepaaGreatDoorCzC34
import Derived.Test.YtphdhedhhlfepaaGreatDoorCzC42
import Derived.Test.YtphdhedhhlfepaaGreatDoorCzC43
import Derived.Test.YtphdhedhhlfepaaGreatDoorCards
import Derived.Test.YtphdhedhhlfepaaGreatDoorTie
import Derived.SevenTiedAt
set_option linter.unusedSimpArgs false
set_option linter.unusedVariables false
namespace Go.Proofs.YtphdhedhhlfepaaGreatDoor
open Go Ab
open Go.ChangeShapes Go.WideShapes Go.ChangeAt Go.RowKit
set_option maxRecDepth 100000
namespace CheckNames
set_option maxHeartbeats 4000000 in
theorem lifted (os:Os) (started:os.Started) (H:Type) (enc:TypeId×Value→H):
 ReturnsInHanded {} Tryz.checked os 5 .any (fun w args=>(Rows.checkNamesSpec.pre enc Tryz.prog Tryz.f5 [] false w args∧laidMetH Tryz.prog Rows.checkNamesRow.laid w)∧sizedMet enc Tryz.prog Tryz.f5 (OpenSpec.ofChange Rows.checkNamesSpec) false w args)
  (Rows.checkNamesSpec.post enc Tryz.prog Tryz.f5 false true false false):=by
 refine handed_shaped (C:=Tryz.checked) (X:=fun w _=>laidMetH Tryz.prog Rows.checkNamesRow.laid w) (fun _ _ _ hh h=>h.of_heap hh) own started (by kernel_rfl) Tryz.func5
  (ChangeSpec.witness_shaped (enc:=enc) (C:=Tryz.checked) (os:=os) (X:=fun w _=>laidMetH Tryz.prog Rows.checkNamesRow.laid w) false (World.laidAll Tryz.prog os Rows.checkNamesRow.laid) #[.slice none 0 0,.int .i64 0,.int .i64 0] 8 (World.laidAll_os _ _ _)
    (World.shaped_of_ZipB (by kernel_rfl) (by kernel_rfl)) (by kernel_rfl) (by kernel_rfl) (by kernel_rfl)
    (by rw[MakeChecks.laidMetH_plain _ _ _ (by kernel_rfl)];exact laidMet_laidAll _ (by kernel_rfl) (by kernel_rfl))) ?_
 intro W base args ds gs before hS hval0 hW _ hsz hL _;rw[MakeChecks.laidMetH_plain _ _ _ (by kernel_rfl)] at hL;have hval:∀ (j:Nat) t v,Tryz.f5.params[j]? =some t→args[j]? =some v→Value.okWide Tryz.prog W .any base t v:=hval0;have hW':=hW;obtain⟨p,q,hA0,hV,rfl,hfz,hnd⟩:=hW;have hA:DataW.TrodAll enc Tryz.prog W 0 (fun _=>true) true Tryz.f5.params.toList args.toList ds p:=hA0;rw[Tryz.params5] at hA hval;obtain⟨v0,vs0,d0,ds0,p0,q0,hargs,rfl,rfl,h0,r0⟩:=trodAll_cons hA;obtain⟨v1,vs1,d1,ds1,p1,q1,rfl,rfl,rfl,h1,r1⟩:=trodAll_cons r0;obtain⟨v2,vs2,d2,ds2,p2,q2,rfl,rfl,rfl,h2,r2⟩:=trodAll_cons r1;obtain⟨rfl,rfl,rfl⟩:=trodAll_nil r2
 obtain rfl:args= #[v0,v1,v2]:=by cases args;simp_all
 obtain⟨rfl,rfl⟩:=trodVars_none hV
 have lt0:∀ x∈p0,x.block<W.heap.size:=by obtain⟨m,hm⟩:=h0;exact DataW.trod_lt m _ _ _ hm
 have lt1:∀ x∈p1,x.block<W.heap.size:=by obtain⟨m,hm⟩:=h1;exact DataW.trod_lt m _ _ _ hm
 have lt2:∀ x∈p2,x.block<W.heap.size:=by obtain⟨m,hm⟩:=h2;exact DataW.trod_lt m _ _ _ hm
 have hws:(DataW.weightsEach Tryz.prog [23,3,3] [d0,d1,d2]).all (·≤reachBytes)=true:=by
  have h:=hsz;rw[Tryz.params5] at h;exact h
 simp only[DataW.weightsEach,List.all_append,List.all_nil,Bool.and_eq_true,and_true] at hws;obtain⟨l0,hl0,hb0⟩:=open_ints (hval 0 23 v0 rfl rfl) h0 hws.1;obtain⟨l1,rfl,hb1⟩:=open_i64 (hval 1 3 v1 rfl rfl) h1;obtain⟨l2,rfl,hb2⟩:=open_i64 (hval 2 3 v2 rfl rfl) h2;clear hA0 hval0
 refine (SC.law (φ:=phW W) (xs:=[v0,.int .i64 l1,.int .i64 l2]) (names_c l0 hb0 l1 l2).2 no_ro ⟨hl0,rfl,rfl,trivial⟩ (phW_good (globals_gz hS hL)) (fun _ _=>rfl)).mono fun e W' ⟨he,bel⟩=>?_
 subst he
 exact⟨_,rfl,_,_,_,[],_,[],hW',trodAll_mk1 (shut_bool Tryz.underlying4 _),
  (trodAll_cons_mk (Below.trod laidOut (by kernel_rfl) (of_decide_eq_true (by kernel_rfl)) h0 bel lt0) (trodAll_cons_mk (Below.trod laidOut (by kernel_rfl) (of_decide_eq_true (by kernel_rfl)) h1 bel lt1) (trodAll_cons_mk (Below.trod laidOut (by kernel_rfl) (of_decide_eq_true (by kernel_rfl)) h2 bel lt2) trodAll_mk0))),rfl,bel.frame _,fun h=>by cases h⟩
theorem over:Rows.checkNamesRow.holds Tryz.pinned (OpenSpec.ofChange Rows.checkNamesSpec):=
 OpenClaim.holds_of_wide 5 Tryz.f5 rfl rfl rfl rfl rfl rfl rfl ⟨rfl,rfl,rfl,rfl,rfl⟩ rfl rfl rfl rfl rfl (by kernel_rfl) Tryz.func5 (by kernel_rfl)
  (of_decide_eq_true (by kernel_rfl)) (by unfold Func.isWrapper;first|(rw[if_pos (by decide+kernel)];kernel_rfl)|(rw[if_neg (by decide+kernel)];exact⟨rfl,rfl⟩))
  (fun os started H enc _=>lifted os started H enc)
theorem card:Rows.CheckNamesCardSaid:=
 Claim7.holds_tied_plain_at .later [] [.data, .data, .data, .data, .pinned] true (true, "931de598fe2e205be77cc9a90b75c6635dcd58d5ec3234a35903386ce8d98ca7") false over (fun _ h => by cases h) (by kernel_rfl) (fun _ h => by cases h) checkNames_row_tie rfl ⟨rfl, rfl⟩ (by kernel_rfl) rfl
  (fun f fn hf hfn=>by
    obtain rfl : f = 5 := Option.some.inj ((show Tryz.prog.funcNamed "platformfw/platformfwlaw04.CheckNames" = some 5 by kernel_rfl).symm.trans hf) |>.symm
    obtain rfl:fn=Tryz.f5:=(Option.some.inj (Tryz.func5.symm.trans hfn)).symm
    exact⟨by kernel_rfl,fun j t ht=>by
     rw[Tryz.params5] at ht
     have hm:t∈[23,3,3]:=by simpa using Array.mem_of_getElem? ht
     have hall:([23,3,3].all fun u=> !Tryz.prog.wantsStandIn u)=true:=by kernel_rfl
     exact (show Tryz.prog.wantsStandIn t=false by simpa using List.all_eq_true.1 hall t hm)⟩)
  (by kernel_rfl)
end CheckNames
theorem checkNames:Rows.CheckNamesCardSaid:=CheckNames.card
end Go.Proofs.YtphdhedhhlfepaaGreatDoor
