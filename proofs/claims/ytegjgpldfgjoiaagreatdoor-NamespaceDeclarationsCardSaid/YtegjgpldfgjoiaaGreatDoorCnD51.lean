/-
  NamespaceDeclarations: for all arguments the statement returns true, where the listed package variables hold what the program's text lays; the card ties them to it.
-/
import Derived.Test.YtegjgpldfgjoiaaGreatDoorCnD50
import Derived.Test.YtegjgpldfgjoiaaGreatDoorCards
import Derived.SevenTiedAt
set_option linter.all false
set_option maxRecDepth 100000
namespace Go.Proofs.YtegjgpldfgjoiaaGreatDoor
section
open Go Ab
open Go.ChangeShapes Go.WideShapes Go.ChangeAt Go.RowKit
namespace NamespaceDeclarations
theorem lifted (os:Os) (started:os.Started) (H:Type) (enc:TypeId×Value->H):
 ReturnsInHanded {} Tryz.checked os 4 .any (λw args=>(Rows.namespaceDeclarationsSpec.pre enc Tryz.prog Tryz.f4 [] false w args/\laidMetH Tryz.prog Rows.namespaceDeclarationsRow.laid w)/\sizedMet enc Tryz.prog Tryz.f4 (OpenSpec.ofChange Rows.namespaceDeclarationsSpec) false w args)
  (Rows.namespaceDeclarationsSpec.post enc Tryz.prog Tryz.f4 false true false false):=by
 refine oO (C:=Tryz.checked) (X:=λw _=>laidMetH Tryz.prog Rows.namespaceDeclarationsRow.laid w) (λ_ _ _ hh h=>h.of_heap hh) own started bd Tryz.func4
  (ChangeSpec.witness_shaped (enc:=enc) (C:=Tryz.checked) (os:=os) (X:=λw _=>laidMetH Tryz.prog Rows.namespaceDeclarationsRow.laid w) false (World.laidAll Tryz.prog os Rows.namespaceDeclarationsRow.laid) #[.slice none 0 0] 8 (World.laidAll_os _ _ _)
    (World.shaped_of_ZipB bd bd) bd bd bd
    (by rw[MakeChecks.laidMetH_plain _ _ _ bd];exact laidMet_laidAll _ bd bd)) ?_
 intro W base args ds gs before hS hval0 hW _ hsz hL _;rw[MakeChecks.laidMetH_plain _ _ _ bd] at hL;have hval:∀ (j:Nat) t v,Tryz.f4.params[j]? =some t->args[j]? =some v->Value.okWide Tryz.prog W .any base t v:=hval0;have hW':=hW;obtain⟨p,q,hA0,hV,rfl,hfz,hnd⟩:=hW;have hA:DataW.TrodAll enc Tryz.prog W 0 (λ_=>true) true Tryz.f4.params.toList args.toList ds p:=hA0;rw[Tryz.params4] at hA hval;obtain⟨v0,vs0,d0,ds0,p0,q0,hargs,rfl,rfl,h0,r0⟩:=trodAll_cons hA;obtain⟨rfl,rfl,rfl⟩:=trodAll_nil r0
 obtain rfl:args= #[v0]:=by cases args;simp_all
 obtain⟨rfl,rfl⟩:=trodVars_none hV
 have lt0:∀ x∈p0,x.block<W.heap.size:=by obtain⟨m,hm⟩:=h0;exact Z2t m _ _ _ hm
 have hws:(DataW.weightsEach Tryz.prog [22] [d0]).all (·<=reachBytes)=true:=by
  have h:=hsz;rw[Tryz.params4] at h;exact h
 simp only[DataW.weightsEach,Z1g,Z2u,Z07,and_true] at hws;obtain⟨l0,hl0,hb0⟩:=xA (hval 0 22 v0 rfl rfl) h0 hws;clear hA0 hval0
 refine (SC.law (φ:=Ho W) (xs:=[v0]) (Gw l0 hb0).2 Hz ⟨hl0,trivial⟩ (zI (uL hS hL)) (λ_ _=>rfl)).mono λe W' ⟨he,bel⟩=>?_
 subst he
 exact⟨_,rfl,_,_,_,[],_,[],hW',trodAll_mk1 (shut_bool Tryz.underlying4 _),
  (trodAll_cons_mk (Below.trod Di bd (of_decide_eq_true bd) h0 bel lt0) trodAll_mk0),rfl,bel.frame _,λh=>by cases h⟩
theorem over9:(Rows.namespaceDeclarationsRow.inPlace==Tryz.pinned.checked.prog.inPlace 4)=true:=bd
theorem over10:(Rows.namespaceDeclarationsRow.unfollowed==Tryz.pinned.checked.prog.unfollowed 4)=true:=bd
theorem over11:(Rows.namespaceDeclarationsRow.recurses==Tryz.pinned.checked.prog.recurses 4)=true:=bd
theorem over12:(Rows.namespaceDeclarationsRow.named==Tryz.pinned.checked.prog.varsNamed 4)=true:=bd
theorem over13:(Rows.namespaceDeclarationsRow.plainKeys==Tryz.pinned.checked.prog.plainKeys)=true:=bd
theorem over1:laidOutB Tryz.pinned.checked.prog=true:=bd
theorem over2:mapsRowed Tryz.pinned.checked.prog=true:=bd
theorem andT {a b:Bool} (h1:a=true) (h2:b=true):(a&&b)=true:=by rw[h1,h2];rfl
theorem closed:joinedFacts Tryz.pinned.checked.prog 4 Tryz.f4 Rows.namespaceDeclarationsSpec Rows.namespaceDeclarationsRow=true:=by
 unfold joinedFacts
 repeat' with_reducible refine andT ?_ ?_
 all_goals first
  |with_reducible exact over1
  |with_reducible exact over2
  |with_reducible exact over9
  |with_reducible exact over10
  |with_reducible exact over11
  |with_reducible exact over12
  |with_reducible exact over13
  |(with_reducible show _=true;kernel_rfl)
theorem over:Rows.namespaceDeclarationsRow.holds Tryz.pinned (OpenSpec.ofChange Rows.namespaceDeclarationsSpec):=
 OpenClaim.holds_of_wide 4 Tryz.f4 rfl rfl rfl rfl rfl rfl rfl ⟨rfl,rfl,rfl,rfl,rfl⟩ rfl rfl rfl rfl rfl bd Tryz.func4 closed
  (of_decide_eq_true bd) (by unfold Func.isWrapper;first|(rw[if_pos (by decide+kernel)];kernel_rfl)|(rw[if_neg (by decide+kernel)];exact⟨rfl,rfl⟩))
  (λos started H enc _=>lifted os started H enc)
theorem card1:Rows.namespaceDeclarationsRow.wfByText (OpenSpec.ofChange Rows.namespaceDeclarationsSpec)=true:=bd
theorem card2 : Tryz.pinned.checked.prog.mainIs = some ((true, "09cf7a60c04cc8033c44848ffdc974449db9c73d1b3c3f3137c27124a35616aa").1, (true, "09cf7a60c04cc8033c44848ffdc974449db9c73d1b3c3f3137c27124a35616aa").2.toList) := bd
theorem card3:true=Tryz.pinned.checked.prog.looks []:=bd
theorem card4:([22].all λu=> !Tryz.prog.wantsStandIn u)=true:=bd
theorem card5:false=Rows.namespaceDeclarationsRow.goesBy Tryz.pinned.checked.prog:=bd
theorem card6 : Tryz.prog.funcNamed "platformfw/platformfwlaw12.NamespaceDeclarations" = some 4 := bd
theorem card:Rows.NamespaceDeclarationsCardSaid:=
 Claim7.holds_tied_plain_at .later [] [.data, .data, .data, .data, .pinned] true (true, "09cf7a60c04cc8033c44848ffdc974449db9c73d1b3c3f3137c27124a35616aa") true over (λ_ h => by cases h) card1 (λ_ h => by cases h) namespaceDeclarations_row_tie rfl ⟨rfl, rfl⟩ card2 rfl
  (λf fn hf hfn=>by
    obtain rfl:f=4:=Z1c (card6.symm.trans hf)|>.symm;obtain rfl:fn=Tryz.f4:=(Z1c (Tryz.func4.symm.trans hfn)).symm
    exact⟨card3,λj t ht=>by
     rw[Tryz.params4] at ht
     have hm:t∈[22]:=by simpa using Z38 ht
     exact (show Tryz.prog.wantsStandIn t=false by simpa using Z0i.1 card4 t hm)⟩)
  card5
end NamespaceDeclarations
theorem namespaceDeclarations:Rows.NamespaceDeclarationsCardSaid:=NamespaceDeclarations.card
end
end Go.Proofs.YtegjgpldfgjoiaaGreatDoor
