/-
  LowerDoesNotAlias: for all arguments the statement returns true, where the listed package variables hold what the program's text lays; the card ties them to it.
-/
import Derived.Test.YtbokilgdefkmiaaGreatDoorCzB38
import Derived.Test.YtbokilgdefkmiaaGreatDoorCzB40
import Derived.Test.YtbokilgdefkmiaaGreatDoorCards
import Derived.Test.YtbokilgdefkmiaaGreatDoorTie
import Derived.SevenTiedAt
set_option linter.unusedSimpArgs false
set_option linter.unusedVariables false
namespace Go.Proofs.YtbokilgdefkmiaaGreatDoor
open Go Ab
open Go.ChangeShapes Go.WideShapes Go.ChangeAt Go.RowKit
set_option maxRecDepth 100000
namespace LowerDoesNotAlias
set_option maxHeartbeats 4000000 in
theorem lifted (os:Os) (started:os.Started) (H:Type) (enc:TypeId×Value→H):
 ReturnsInHanded {} Tryz.checked os 6 .any (fun w args=>(Rows.lowerDoesNotAliasSpec.pre enc Tryz.prog Tryz.f6 [] false w args∧laidMetH Tryz.prog Rows.lowerDoesNotAliasRow.laid w)∧sizedMet enc Tryz.prog Tryz.f6 (OpenSpec.ofChange Rows.lowerDoesNotAliasSpec) false w args)
  (Rows.lowerDoesNotAliasSpec.post enc Tryz.prog Tryz.f6 false true false false):=by
 refine handed_shaped (C:=Tryz.checked) (X:=fun w _=>laidMetH Tryz.prog Rows.lowerDoesNotAliasRow.laid w) (fun _ _ _ hh h=>h.of_heap hh) own started (by kernel_rfl) Tryz.func6
  (ChangeSpec.witness_shaped (enc:=enc) (C:=Tryz.checked) (os:=os) (X:=fun w _=>laidMetH Tryz.prog Rows.lowerDoesNotAliasRow.laid w) false (World.laidAll Tryz.prog os Rows.lowerDoesNotAliasRow.laid) #[.slice none 0 0] 8 (World.laidAll_os _ _ _)
    (World.shaped_of_ZipB (by kernel_rfl) (by kernel_rfl)) (by kernel_rfl) (by kernel_rfl) (by kernel_rfl)
    (by rw[MakeChecks.laidMetH_plain _ _ _ (by kernel_rfl)];exact laidMet_laidAll _ (by kernel_rfl) (by kernel_rfl))) ?_
 intro W base args ds gs before hS hval0 hW _ hsz hL _;rw[MakeChecks.laidMetH_plain _ _ _ (by kernel_rfl)] at hL;have hval:∀ (j:Nat) t v,Tryz.f6.params[j]? =some t→args[j]? =some v→Value.okWide Tryz.prog W .any base t v:=hval0;have hW':=hW;obtain⟨p,q,hA0,hV,rfl,hfz,hnd⟩:=hW;have hA:DataW.TrodAll enc Tryz.prog W 0 (fun _=>true) true Tryz.f6.params.toList args.toList ds p:=hA0;rw[Tryz.params6] at hA hval;obtain⟨v0,vs0,d0,ds0,p0,q0,hargs,rfl,rfl,h0,r0⟩:=trodAll_cons hA;obtain⟨rfl,rfl,rfl⟩:=trodAll_nil r0
 obtain rfl:args= #[v0]:=by cases args;simp_all
 obtain⟨rfl,rfl⟩:=trodVars_none hV
 have lt0:∀ x∈p0,x.block<W.heap.size:=by obtain⟨m,hm⟩:=h0;exact DataW.trod_lt m _ _ _ hm
 have hws:(DataW.weightsEach Tryz.prog [22] [d0]).all (·≤reachBytes)=true:=by
  have h:=hsz;rw[Tryz.params6] at h;exact h
 simp only[DataW.weightsEach,List.all_append,List.all_nil,Bool.and_eq_true,and_true] at hws;obtain⟨l0,hl0,hb0⟩:=open_ints (hval 0 22 v0 rfl rfl) h0 hws;clear hA0 hval0
 refine (SC.law (φ:=phW W) (xs:=[v0]) (alias_c l0 hb0 awake_c).2 no_ro ⟨hl0,trivial⟩ (phW_good (globals_gz hS hL)) (fun _ _=>rfl)).mono fun e W' ⟨he,bel⟩=>?_
 subst he
 exact⟨_,rfl,_,_,_,[],_,[],hW',trodAll_mk1 (shut_bool Tryz.underlying4 _),
  (trodAll_cons_mk (Below.trod laidOut (by kernel_rfl) (of_decide_eq_true (by kernel_rfl)) h0 bel lt0) trodAll_mk0),rfl,bel.frame _,fun h=>by cases h⟩
theorem over:Rows.lowerDoesNotAliasRow.holds Tryz.pinned (OpenSpec.ofChange Rows.lowerDoesNotAliasSpec):=
 OpenClaim.holds_of_wide 6 Tryz.f6 rfl rfl rfl rfl rfl rfl rfl ⟨rfl,rfl,rfl,rfl,rfl⟩ rfl rfl rfl rfl rfl (by kernel_rfl) Tryz.func6 (by kernel_rfl)
  (of_decide_eq_true (by kernel_rfl)) (by unfold Func.isWrapper;first|(rw[if_pos (by decide+kernel)];kernel_rfl)|(rw[if_neg (by decide+kernel)];exact⟨rfl,rfl⟩))
  (fun os started H enc _=>lifted os started H enc)
theorem card:Rows.LowerDoesNotAliasCardSaid:=
 Claim7.holds_tied_plain_at .later [] [.data, .data, .data, .data, .pinned] true (true, "243892b285f9acb236f7bca336c9d9198fbb9dd687300925fa391b11f427df69") false over (fun _ h => by cases h) (by kernel_rfl) (fun _ h => by cases h) lowerDoesNotAlias_row_tie rfl ⟨rfl, rfl⟩ (by kernel_rfl) rfl
  (fun f fn hf hfn=>by
    obtain rfl : f = 6 := Option.some.inj ((show Tryz.prog.funcNamed "platformfw/platformfwlaw14.LowerDoesNotAlias" = some 6 by kernel_rfl).symm.trans hf) |>.symm
    obtain rfl:fn=Tryz.f6:=(Option.some.inj (Tryz.func6.symm.trans hfn)).symm
    exact⟨by kernel_rfl,fun j t ht=>by
     rw[Tryz.params6] at ht
     have hm:t∈[22]:=by simpa using Array.mem_of_getElem? ht
     have hall:([22].all fun u=> !Tryz.prog.wantsStandIn u)=true:=by kernel_rfl
     exact (show Tryz.prog.wantsStandIn t=false by simpa using List.all_eq_true.1 hall t hm)⟩)
  (by kernel_rfl)
end LowerDoesNotAlias
theorem lowerDoesNotAlias:Rows.LowerDoesNotAliasCardSaid:=LowerDoesNotAlias.card
end Go.Proofs.YtbokilgdefkmiaaGreatDoor
