/-
  NamespaceUnloadRestores: for all arguments the statement returns true, where the listed package variables hold what the program's text lays; the card ties them to it.
-/
import Derived.Test.YtegjgpldfgjoiaaGreatDoorCnB33
import Derived.Test.YtegjgpldfgjoiaaGreatDoorCnB45
import Derived.Test.YtegjgpldfgjoiaaGreatDoorCards
import Derived.Test.YtegjgpldfgjoiaaGreatDoorTie
import Derived.SevenTiedAt
set_option linter.unusedSimpArgs false
set_option linter.unusedVariables false
namespace Go.Proofs.YtegjgpldfgjoiaaGreatDoor
open Go Ab
open Go.ChangeShapes Go.WideShapes Go.ChangeAt Go.RowKit
set_option maxRecDepth 100000
namespace NamespaceUnloadRestores
set_option maxHeartbeats 4000000 in
theorem lifted (os:Os) (started:os.Started) (H:Type) (enc:TypeId×Value->H):
 ReturnsInHanded {} Tryz.checked os 8 .any (fun w args=>(Rows.namespaceUnloadRestoresSpec.pre enc Tryz.prog Tryz.f8 [] false w args/\laidMetH Tryz.prog Rows.namespaceUnloadRestoresRow.laid w)/\sizedMet enc Tryz.prog Tryz.f8 (OpenSpec.ofChange Rows.namespaceUnloadRestoresSpec) false w args)
  (Rows.namespaceUnloadRestoresSpec.post enc Tryz.prog Tryz.f8 false true false false):=by
 refine eH (C:=Tryz.checked) (X:=fun w _=>laidMetH Tryz.prog Rows.namespaceUnloadRestoresRow.laid w) (fun _ _ _ hh h=>h.of_heap hh) own started (by kernel_rfl) Tryz.func8
  (ChangeSpec.witness_shaped (enc:=enc) (C:=Tryz.checked) (os:=os) (X:=fun w _=>laidMetH Tryz.prog Rows.namespaceUnloadRestoresRow.laid w) false (World.laidAll Tryz.prog os Rows.namespaceUnloadRestoresRow.laid) #[.slice none 0 0,.slice none 0 0] 8 (World.laidAll_os _ _ _)
    (World.shaped_of_ZipB (by kernel_rfl) (by kernel_rfl)) (by kernel_rfl) (by kernel_rfl) (by kernel_rfl)
    (by rw[MakeChecks.laidMetH_plain _ _ _ (by kernel_rfl)];exact laidMet_laidAll _ (by kernel_rfl) (by kernel_rfl))) ?_
 intro W base args ds gs before hS hval0 hW _ hsz hL _;rw[MakeChecks.laidMetH_plain _ _ _ (by kernel_rfl)] at hL;have hval:∀ (j:Nat) t v,Tryz.f8.params[j]? =some t->args[j]? =some v->Value.okWide Tryz.prog W .any base t v:=hval0;have hW':=hW;obtain⟨p,q,hA0,hV,rfl,hfz,hnd⟩:=hW;have hA:DataW.TrodAll enc Tryz.prog W 0 (fun _=>true) true Tryz.f8.params.toList args.toList ds p:=hA0;rw[Tryz.params8] at hA hval;obtain⟨v0,vs0,d0,ds0,p0,q0,hargs,rfl,rfl,h0,r0⟩:=trodAll_cons hA;obtain⟨v1,vs1,d1,ds1,p1,q1,rfl,rfl,rfl,h1,r1⟩:=trodAll_cons r0;obtain⟨rfl,rfl,rfl⟩:=trodAll_nil r1
 obtain rfl:args= #[v0,v1]:=by cases args;simp_all
 obtain⟨rfl,rfl⟩:=trodVars_none hV
 have lt0:∀ x∈p0,x.block<W.heap.size:=by obtain⟨m,hm⟩:=h0;exact DataW.trod_lt m _ _ _ hm
 have lt1:∀ x∈p1,x.block<W.heap.size:=by obtain⟨m,hm⟩:=h1;exact DataW.trod_lt m _ _ _ hm
 have hws:(DataW.weightsEach Tryz.prog [22,22] [d0,d1]).all (·<=reachBytes)=true:=by
  have h:=hsz;rw[Tryz.params8] at h;exact h
 simp only[DataW.weightsEach,List.all_append,List.all_nil,Bool.and_eq_true,and_true] at hws;obtain⟨l0,hl0,hb0⟩:=eN (hval 0 22 v0 rfl rfl) h0 hws.1;obtain⟨l1,hl1,hb1⟩:=eN (hval 1 22 v1 rfl rfl) h1 hws.2;clear hA0 hval0
 refine (SC.law (φ:=phW W) (xs:=[v0,v1]) (xC l0 hb0 l1 hb1).2 yH ⟨hl0,hl1,trivial⟩ (ll (ij hS hL)) (fun _ _=>rfl)).mono fun e W' ⟨he,bel⟩=>?_
 subst he
 exact⟨_,rfl,_,_,_,[],_,[],hW',trodAll_mk1 (shut_bool Tryz.underlying4 _),
  (trodAll_cons_mk (Below.trod iN (by kernel_rfl) (of_decide_eq_true (by kernel_rfl)) h0 bel lt0) (trodAll_cons_mk (Below.trod iN (by kernel_rfl) (of_decide_eq_true (by kernel_rfl)) h1 bel lt1) trodAll_mk0)),rfl,bel.frame _,fun h=>by cases h⟩
theorem over9:(Rows.namespaceUnloadRestoresRow.inPlace==Tryz.pinned.checked.prog.inPlace 8)=true:=by kernel_rfl
theorem over10:(Rows.namespaceUnloadRestoresRow.unfollowed==Tryz.pinned.checked.prog.unfollowed 8)=true:=by kernel_rfl
theorem over11:(Rows.namespaceUnloadRestoresRow.recurses==Tryz.pinned.checked.prog.recurses 8)=true:=by kernel_rfl
theorem over12:(Rows.namespaceUnloadRestoresRow.named==Tryz.pinned.checked.prog.varsNamed 8)=true:=by kernel_rfl
theorem over13:(Rows.namespaceUnloadRestoresRow.plainKeys==Tryz.pinned.checked.prog.plainKeys)=true:=by kernel_rfl
theorem over1:laidOutB Tryz.pinned.checked.prog=true:=by kernel_rfl
theorem over2:mapsRowed Tryz.pinned.checked.prog=true:=by kernel_rfl
theorem andT {a b:Bool} (h1:a=true) (h2:b=true):(a&&b)=true:=by rw[h1,h2];rfl
theorem closed:joinedFacts Tryz.pinned.checked.prog 8 Tryz.f8 Rows.namespaceUnloadRestoresSpec Rows.namespaceUnloadRestoresRow=true:=by
 unfold joinedFacts
 repeat' with_reducible refine andT ?_ ?_
 all_goals first
  |with_reducible exact over1
  |with_reducible exact over2
  |with_reducible exact over9
  |with_reducible exact over10
  |with_reducible exact over11
  |with_reducible exact over12
  |with_reducible exact over13
  |(with_reducible show _=true;kernel_rfl)
theorem over:Rows.namespaceUnloadRestoresRow.holds Tryz.pinned (OpenSpec.ofChange Rows.namespaceUnloadRestoresSpec):=
 OpenClaim.holds_of_wide 8 Tryz.f8 rfl rfl rfl rfl rfl rfl rfl ⟨rfl,rfl,rfl,rfl,rfl⟩ rfl rfl rfl rfl rfl (by kernel_rfl) Tryz.func8 closed
  (of_decide_eq_true (by kernel_rfl)) (by unfold Func.isWrapper;first|(rw[if_pos (by decide+kernel)];kernel_rfl)|(rw[if_neg (by decide+kernel)];exact⟨rfl,rfl⟩))
  (fun os started H enc _=>lifted os started H enc)
theorem card1:Rows.namespaceUnloadRestoresRow.wfByText (OpenSpec.ofChange Rows.namespaceUnloadRestoresSpec)=true:=by kernel_rfl
theorem card2 : Tryz.pinned.checked.prog.mainIs = some ((true, "09cf7a60c04cc8033c44848ffdc974449db9c73d1b3c3f3137c27124a35616aa").1, (true, "09cf7a60c04cc8033c44848ffdc974449db9c73d1b3c3f3137c27124a35616aa").2.toList) := by kernel_rfl
theorem card3:true=Tryz.pinned.checked.prog.looks []:=by kernel_rfl
theorem card4:([22,22].all fun u=> !Tryz.prog.wantsStandIn u)=true:=by kernel_rfl
theorem card5:false=Rows.namespaceUnloadRestoresRow.goesBy Tryz.pinned.checked.prog:=by kernel_rfl
theorem card6 : Tryz.prog.funcNamed "platformfw/platformfwlaw12.NamespaceUnloadRestores" = some 8 := by kernel_rfl
theorem card:Rows.NamespaceUnloadRestoresCardSaid:=
 Claim7.holds_tied_plain_at .later [] [.data, .data, .data, .data, .pinned] true (true, "09cf7a60c04cc8033c44848ffdc974449db9c73d1b3c3f3137c27124a35616aa") true over (fun _ h => by cases h) card1 (fun _ h => by cases h) namespaceUnloadRestores_row_tie rfl ⟨rfl, rfl⟩ card2 rfl
  (fun f fn hf hfn=>by
    obtain rfl:f=8:=Option.some.inj (card6.symm.trans hf)|>.symm;obtain rfl:fn=Tryz.f8:=(Option.some.inj (Tryz.func8.symm.trans hfn)).symm
    exact⟨card3,fun j t ht=>by
     rw[Tryz.params8] at ht
     have hm:t∈[22,22]:=by simpa using Array.mem_of_getElem? ht
     exact (show Tryz.prog.wantsStandIn t=false by simpa using List.all_eq_true.1 card4 t hm)⟩)
  card5
end NamespaceUnloadRestores
theorem namespaceUnloadRestores:Rows.NamespaceUnloadRestoresCardSaid:=NamespaceUnloadRestores.card
end Go.Proofs.YtegjgpldfgjoiaaGreatDoor
