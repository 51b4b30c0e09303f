/-
  NamespaceLooksUp, the second form: for arguments of bulk at most 1048576 the statement returns true, where the listed package variables hold what the program's text lays; the card ties them to it.
-/
import Derived.Test.YtegjgpldfgjoiaaGreatDoorCnM32
import Derived.Test.YtegjgpldfgjoiaaGreatDoorCnM49
import Derived.Test.YtegjgpldfgjoiaaGreatDoorCards
import Derived.Test.YtegjgpldfgjoiaaGreatDoorTie
import Derived.SevenTiedAt
import Derived.Deep.DeepHandedRow
set_option linter.all false
namespace Go.Proofs.YtegjgpldfgjoiaaGreatDoor
open Go Ab
open Go.ChangeShapes Go.WideShapes Go.ChangeAt Go.RowKit
set_option maxRecDepth 100000
namespace NamespaceLooksUp
abbrev aZ:Input:=⟨#[],#[.slice none 0 0,.slice none 0 0,.slice none 0 0,.slice none 0 0,.slice none 0 0],[]⟩
theorem reads (os:Os) {H:Type} (enc:TypeId×Value->H):∃ places,DataW.whole enc Tryz.prog ((World.laidAll Tryz.prog os Rows.namespaceLooksUpUptoRow.laid).forCall (λ_ _=>0) aZ).memory Tryz.f3.params.toList Rows.namespaceLooksUpSpec.vars false #[Value.slice none 0 0,.slice none 0 0,.slice none 0 0,.slice none 0 0,.slice none 0 0].toList 8=some ([.nil,.nil,.nil,.nil,.nil],[],places):=
 ⟨[],by kernel_rfl⟩
set_option maxHeartbeats 40000000 in
theorem lifted (os:Os) (started:os.Started) (H:Type) (enc:TypeId×Value->H) (F:Stop.Interp):
 ReturnsInHanded {} Tryz.checked os 3 .any ((Rows.OpenSpec.upto Rows.namespaceLooksUpSpec).preRow enc Tryz.prog Tryz.f3 Rows.namespaceLooksUpUptoRow.domain false Rows.namespaceLooksUpUptoRow.laid) (((Rows.OpenSpec.upto Rows.namespaceLooksUpSpec).at F).post enc Tryz.prog Tryz.f3 false true false false):=by
 obtain⟨places,hx⟩:=reads os enc
 have hok:Input.okWideB Tryz.prog ((World.laidAll Tryz.prog os Rows.namespaceLooksUpUptoRow.laid).forCall (λ_ _=>0) aZ) 3 aZ=true:=by kernel_rfl
 refine returnsInHanded_of_row (C:=Tryz.checked) (s:=Rows.OpenSpec.upto Rows.namespaceLooksUpSpec) own started (by kernel_rfl) Tryz.func3
  ⟨World.laidAll Tryz.prog os Rows.namespaceLooksUpUptoRow.laid,λ_ _=>0,aZ,World.laidAll_os _ _ _,World.shaped_of_ZipB (by kernel_rfl) (by kernel_rfl),(Input.okWide_of_okWideB (base:=0) hok).1,(Input.okWide_of_okWideB hok).2,
   OpenSpec.preRow_of_cond 8 hx (by kernel_rfl) (λk hk=>by cases hk;kernel_rfl) (by kernel_rfl) (by rw[MakeChecks.laidMetH_plain _ _ _ (by kernel_rfl)];exact laidMet_laidAll _ (by kernel_rfl) (by kernel_rfl)),
   by simp only[Assume.holds];exact⟨an,an,λ_=>Modest.zero,an,an⟩⟩ ?_
 intro W base args ds gs before hval0 hW _ hcond hsz hL hS _;rw[MakeChecks.laidMetH_plain _ _ _ (by kernel_rfl)] at hL;have hval:∀ (j:Nat) t v,Tryz.f3.params[j]? =some t->args[j]? =some v->Value.okWide Tryz.prog W .any base t v:=hval0;have hW':=hW;obtain⟨p,q,hA0,hV,rfl,hfz,hnd⟩:=hW;have hA:DataW.TrodAll enc Tryz.prog W 0 (λ_=>true) true Tryz.f3.params.toList args.toList ds p:=hA0;rw[Tryz.params3] at hA hval;obtain⟨v0,vs0,d0,ds0,p0,q0,hargs,rfl,rfl,h0,r0⟩:=trodAll_cons hA;obtain⟨v1,vs1,d1,ds1,p1,q1,rfl,rfl,rfl,h1,r1⟩:=trodAll_cons r0;obtain⟨v2,vs2,d2,ds2,p2,q2,rfl,rfl,rfl,h2,r2⟩:=trodAll_cons r1;obtain⟨v3,vs3,d3,ds3,p3,q3,rfl,rfl,rfl,h3,r3⟩:=trodAll_cons r2;obtain⟨v4,vs4,d4,ds4,p4,q4,rfl,rfl,rfl,h4,r4⟩:=trodAll_cons r3;obtain⟨rfl,rfl,rfl⟩:=trodAll_nil r4
 obtain rfl:args= #[v0,v1,v2,v3,v4]:=by cases args;simp_all
 obtain⟨rfl,rfl⟩:=trodVars_none hV
 have lt0:∀ x∈p0,x.block<W.heap.size:=by obtain⟨m,hm⟩:=h0;exact Z2t m _ _ _ hm
 have lt1:∀ x∈p1,x.block<W.heap.size:=by obtain⟨m,hm⟩:=h1;exact Z2t m _ _ _ hm
 have lt2:∀ x∈p2,x.block<W.heap.size:=by obtain⟨m,hm⟩:=h2;exact Z2t m _ _ _ hm
 have lt3:∀ x∈p3,x.block<W.heap.size:=by obtain⟨m,hm⟩:=h3;exact Z2t m _ _ _ hm
 have lt4:∀ x∈p4,x.block<W.heap.size:=by obtain⟨m,hm⟩:=h4;exact Z2t m _ _ _ hm
 have hws:(DataW.weightsEach Tryz.prog [22,22,23,23,22] [d0,d1,d2,d3,d4]).all (·<=reachBytes)=true:=by
  have h:=hsz;rw[Tryz.params3] at h;exact h
 simp only[DataW.weightsEach,Z1g,Z2u,Z07,and_true] at hws;have hbk:Rows.uptoBulkAll ([d0,d1,d2,d3,d4]++[])<=1048576:=of_decide_eq_true (hcond _ rfl);simp only[Z0u,Rows.uptoBulkAll] at hbk;obtain⟨l0,hl0,hb0⟩:=lE (hval 0 22 v0 rfl rfl) h0 hws.1;obtain⟨l1,hl1,hb1⟩:=lE (hval 1 22 v1 rfl rfl) h1 hws.2.1;obtain⟨l2,hl2,hb2,hu2⟩:=n_ (hval 2 23 v2 rfl rfl) h2 hws.2.2.1
 have hs2:∀ i,(l2.getD i []).length<=4398046511104:=λi=>by have:=hu2 i;omega
 obtain⟨l3,hl3,hb3,hu3⟩:=n_ (hval 3 23 v3 rfl rfl) h3 hws.2.2.2.1
 have hs3:∀ i,(l3.getD i []).length<=4398046511104:=λi=>by have:=hu3 i;omega
 obtain⟨l4,hl4,hb4⟩:=lE (hval 4 22 v4 rfl rfl) h4 hws.2.2.2.2;clear hA0 hval0
 refine (SC.law (φ:=IQ W) (xs:=[v0,v1,v2,v3,v4]) (E_ l0 hb0 l1 hb1 l2 hs2 hb2 l3 hs3 hb3 l4 hb4).2 Jo ⟨hl0,hl1,hl2,hl3,hl4,trivial⟩ (BF (wA hS hL)) (λ_ _=>rfl)).mono λe W' ⟨he,bel⟩=>?_
 subst he
 exact⟨_,rfl,_,_,_,[],_,[],hW',trodAll_mk1 (shut_bool Tryz.underlying4 _),
  (trodAll_cons_mk (Below.trod kN (by kernel_rfl) (of_decide_eq_true (by kernel_rfl)) h0 bel lt0) (trodAll_cons_mk (Below.trod kN (by kernel_rfl) (of_decide_eq_true (by kernel_rfl)) h1 bel lt1) (trodAll_cons_mk (Below.trod kN (by kernel_rfl) (of_decide_eq_true (by kernel_rfl)) h2 bel lt2) (trodAll_cons_mk (Below.trod kN (by kernel_rfl) (of_decide_eq_true (by kernel_rfl)) h3 bel lt3) (trodAll_cons_mk (Below.trod kN (by kernel_rfl) (of_decide_eq_true (by kernel_rfl)) h4 bel lt4) trodAll_mk0))))),rfl,bel.frame _,λh=>by cases h⟩
theorem over9:(Rows.namespaceLooksUpUptoRow.inPlace==Tryz.pinned.checked.prog.inPlace 3)=true:=by kernel_rfl
theorem over10:(Rows.namespaceLooksUpUptoRow.unfollowed==Tryz.pinned.checked.prog.unfollowed 3)=true:=by kernel_rfl
theorem over11:(Rows.namespaceLooksUpUptoRow.recurses==Tryz.pinned.checked.prog.recurses 3)=true:=by kernel_rfl
theorem over12:(Rows.namespaceLooksUpUptoRow.named==Tryz.pinned.checked.prog.varsNamed 3)=true:=by kernel_rfl
theorem over13:(Rows.namespaceLooksUpUptoRow.plainKeys==Tryz.pinned.checked.prog.plainKeys)=true:=by kernel_rfl
theorem over1:laidOutB Tryz.pinned.checked.prog=true:=by kernel_rfl
theorem over2:mapsRowed Tryz.pinned.checked.prog=true:=by kernel_rfl
theorem andT {a b:Bool} (h1:a=true) (h2:b=true):(a&&b)=true:=by rw[h1,h2];rfl
theorem closed:joinedFacts Tryz.pinned.checked.prog 3 Tryz.f3 (Rows.OpenSpec.upto Rows.namespaceLooksUpSpec).bare Rows.namespaceLooksUpUptoRow=true:=by
 unfold joinedFacts
 repeat' with_reducible refine andT ?_ ?_
 all_goals first
  |with_reducible exact over1
  |with_reducible exact over2
  |with_reducible exact over9
  |with_reducible exact over10
  |with_reducible exact over11
  |with_reducible exact over12
  |with_reducible exact over13
  |(with_reducible show _=true;kernel_rfl)
theorem over:Rows.NamespaceLooksUpUptoSaid:=
 OpenClaim.holds_of_cond 3 Tryz.f3 rfl rfl rfl rfl rfl rfl rfl ⟨rfl,rfl,rfl,rfl,rfl⟩ rfl rfl rfl rfl rfl (by kernel_rfl) Tryz.func3 closed
  (of_decide_eq_true (by kernel_rfl)) (by unfold Func.isWrapper;first|(rw[if_pos (by decide+kernel)];kernel_rfl)|(rw[if_neg (by decide+kernel)];exact⟨rfl,rfl⟩))
  (λos started H enc _ F=>by rw[OpenClaim.pre_eq_preRow];exact lifted os started H enc F)
theorem card1:Rows.namespaceLooksUpUptoRow.wfByText (Rows.OpenSpec.upto Rows.namespaceLooksUpSpec)=true:=by kernel_rfl
theorem card2 : Tryz.pinned.checked.prog.mainIs = some ((true, "09cf7a60c04cc8033c44848ffdc974449db9c73d1b3c3f3137c27124a35616aa").1, (true, "09cf7a60c04cc8033c44848ffdc974449db9c73d1b3c3f3137c27124a35616aa").2.toList) := by kernel_rfl
theorem card3:true=Tryz.pinned.checked.prog.looks []:=by kernel_rfl
theorem card4:([22,22,23,23,22].all λu=> !Tryz.prog.wantsStandIn u)=true:=by kernel_rfl
theorem card5:false=Rows.namespaceLooksUpUptoRow.goesBy Tryz.pinned.checked.prog:=by kernel_rfl
theorem card6 : Tryz.prog.funcNamed "platformfw/platformfwlaw12.NamespaceLooksUp" = some 3 := by kernel_rfl
theorem card:Rows.NamespaceLooksUpUptoCardSaid:=
 Claim7.holds_tied_plain_at .later [] [.data, .data, .data, .data, .pinned] true (true, "09cf7a60c04cc8033c44848ffdc974449db9c73d1b3c3f3137c27124a35616aa") true over (λ_ h => by cases h) card1 (λ_ h => by cases h) namespaceLooksUpUpto_row_tie rfl ⟨rfl, rfl⟩ card2 rfl
  (λf fn hf hfn=>by
    obtain rfl:f=3:=Z1c (card6.symm.trans hf)|>.symm;obtain rfl:fn=Tryz.f3:=(Z1c (Tryz.func3.symm.trans hfn)).symm
    exact⟨card3,λj t ht=>by
     rw[Tryz.params3] at ht
     have hm:t∈[22,22,23,23,22]:=by simpa using Z38 ht
     exact (show Tryz.prog.wantsStandIn t=false by simpa using Z0i.1 card4 t hm)⟩)
  card5
end NamespaceLooksUp
theorem namespaceLooksUpUpto:Rows.NamespaceLooksUpUptoCardSaid:=NamespaceLooksUp.card
end Go.Proofs.YtegjgpldfgjoiaaGreatDoor
