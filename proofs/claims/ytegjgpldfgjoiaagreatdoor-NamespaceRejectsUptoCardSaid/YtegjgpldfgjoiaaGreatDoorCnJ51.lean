/-
  NamespaceRejects, the second form: for arguments of bulk at most 1048576 the statement returns true, where the listed package variables hold what the program's text lays; the card ties them to it.
-/
import Derived.Test.YtegjgpldfgjoiaaGreatDoorCnJ50
import Derived.Test.YtegjgpldfgjoiaaGreatDoorCards
import Derived.SevenTiedAt
import Derived.Deep.DeepHandedRow
set_option linter.all false
set_option maxRecDepth 100000
namespace Go.Proofs.YtegjgpldfgjoiaaGreatDoor
section
open Go Ab
open Go.ChangeShapes Go.WideShapes Go.ChangeAt Go.RowKit
namespace NamespaceRejects
abbrev aZ:Input:=⟨#[],#[.slice none 0 0,.slice none 0 0,.int .i64 0,.agg #[.int .i64 0,.int .u64 0,.string ⟨#[]⟩,.int .i64 0],.slice none 0 0],[]⟩
theorem reads (os:Os) {H:Type} (enc:TypeId×Value->H):∃ places,DataW.whole enc Tryz.prog ((World.laidAll Tryz.prog os Rows.namespaceRejectsUptoRow.laid).forCall (λ_ _=>0) aZ).memory Tryz.f7.params.toList Rows.namespaceRejectsSpec.vars false #[Value.slice none 0 0,.slice none 0 0,.int .i64 0,.agg #[.int .i64 0,.int .u64 0,.string ⟨#[]⟩,.int .i64 0],.slice none 0 0].toList 8=some ([.nil,.nil,.lit (.int .i64 0),.agg [.lit (.int .i64 0),.lit (.int .u64 0),.lit (.string []),.lit (.int .i64 0)],.nil],[],places):=
 ⟨[],aK⟩
theorem lifted (os:Os) (started:os.Started) (H:Type) (enc:TypeId×Value->H) (F:Stop.Interp):
 ReturnsInHanded {} Tryz.checked os 7 .any ((Rows.OpenSpec.upto Rows.namespaceRejectsSpec).preRow enc Tryz.prog Tryz.f7 Rows.namespaceRejectsUptoRow.domain false Rows.namespaceRejectsUptoRow.laid) (((Rows.OpenSpec.upto Rows.namespaceRejectsSpec).at F).post enc Tryz.prog Tryz.f7 false true false false):=by
 obtain⟨places,hx⟩:=reads os enc;have hok:Input.okWideB Tryz.prog ((World.laidAll Tryz.prog os Rows.namespaceRejectsUptoRow.laid).forCall (λ_ _=>0) aZ) 7 aZ=true:=aK
 refine returnsInHanded_of_row (C:=Tryz.checked) (s:=Rows.OpenSpec.upto Rows.namespaceRejectsSpec) own started aK Tryz.func7
  ⟨World.laidAll Tryz.prog os Rows.namespaceRejectsUptoRow.laid,λ_ _=>0,aZ,World.laidAll_os _ _ _,World.shaped_of_ZipB aK aK,(Input.okWide_of_okWideB (base:=0) hok).1,(Input.okWide_of_okWideB hok).2,
   OpenSpec.preRow_of_cond 8 hx aK (λk hk=>by cases hk;kernel_rfl) aK (by rw[MakeChecks.laidMetH_plain _ _ _ aK];exact laidMet_laidAll _ aK aK),
   by simp only[Assume.holds];exact⟨aq,aq,λ_=>Modest.zero,aq,aq⟩⟩ ?_
 intro W base args ds gs before hval0 hW _ hcond hsz hL hS _;rw[MakeChecks.laidMetH_plain _ _ _ aK] at hL;have hval:∀ (j:Nat) t v,Tryz.f7.params[j]? =some t->args[j]? =some v->Value.okWide Tryz.prog W .any base t v:=hval0;have hW':=hW;obtain⟨p,q,hA0,hV,rfl,hfz,hnd⟩:=hW;have hA:DataW.TrodAll enc Tryz.prog W 0 (λ_=>true) true Tryz.f7.params.toList args.toList ds p:=hA0;rw[Tryz.params7] at hA hval;obtain⟨v0,vs0,d0,ds0,p0,q0,hargs,rfl,rfl,h0,r0⟩:=trodAll_cons hA;obtain⟨v1,vs1,d1,ds1,p1,q1,rfl,rfl,rfl,h1,r1⟩:=trodAll_cons r0;obtain⟨v2,vs2,d2,ds2,p2,q2,rfl,rfl,rfl,h2,r2⟩:=trodAll_cons r1;obtain⟨v3,vs3,d3,ds3,p3,q3,rfl,rfl,rfl,h3,r3⟩:=trodAll_cons r2;obtain⟨v4,vs4,d4,ds4,p4,q4,rfl,rfl,rfl,h4,r4⟩:=trodAll_cons r3;obtain⟨rfl,rfl,rfl⟩:=trodAll_nil r4
 obtain rfl:args= #[v0,v1,v2,v3,v4]:=by cases args;simp_all
 obtain⟨rfl,rfl⟩:=trodVars_none hV
 have lt0:∀ x∈p0,x.block<W.heap.size:=by obtain⟨m,hm⟩:=h0;exact Z2t m _ _ _ hm
 have lt1:∀ x∈p1,x.block<W.heap.size:=by obtain⟨m,hm⟩:=h1;exact Z2t m _ _ _ hm
 have lt2:∀ x∈p2,x.block<W.heap.size:=by obtain⟨m,hm⟩:=h2;exact Z2t m _ _ _ hm
 have lt3:∀ x∈p3,x.block<W.heap.size:=by obtain⟨m,hm⟩:=h3;exact Z2t m _ _ _ hm
 have lt4:∀ x∈p4,x.block<W.heap.size:=by obtain⟨m,hm⟩:=h4;exact Z2t m _ _ _ hm
 have hws:(DataW.weightsEach Tryz.prog [22,22,3,49,32] [d0,d1,d2,d3,d4]).all (·<=reachBytes)=true:=by
  have h:=hsz;rw[Tryz.params7] at h;exact h
 simp only[DataW.weightsEach,Z1g,Z2u,Z07,and_true] at hws;have hbk:Rows.uptoBulkAll ([d0,d1,d2,d3,d4]++[])<=1048576:=of_decide_eq_true (hcond _ rfl);simp only[Z0u,Rows.uptoBulkAll] at hbk;obtain⟨l0,hl0,hb0⟩:=rJ (hval 0 22 v0 rfl rfl) h0 hws.1;obtain⟨l1,hl1,hb1⟩:=rJ (hval 1 22 v1 rfl rfl) h1 hws.2.1;obtain⟨l2,rfl,hb2⟩:=DI (hval 2 3 v2 rfl rfl) h2;obtain⟨l3,hl3,hi3⟩:=DH (hval 3 49 v3 rfl rfl) h3;obtain⟨l4,hl4,-,hi4,hu4⟩:=vM (hval 4 32 v4 rfl rfl) h4 hws.2.2.2.2
 have hs4:kO l4:=λx hx=>by have:=hu4 x hx;omega
 clear hA0 hval0
 refine (SC.law (φ:=Lg W) (xs:=[v0,v1,.int .i64 l2,v3,v4]) (LM l0 hb0 l1 hb1 l2 l3 hi3 l4 hs4 hi4).2 LW ⟨hl0,hl1,rfl,hl3 _,hl4,trivial⟩ (DB (yE hS hL)) (λ_ _=>rfl)).mono λe W' ⟨he,bel⟩=>?_
 subst he
 exact⟨_,rfl,_,_,_,[],_,[],hW',trodAll_mk1 (shut_bool Tryz.underlying4 _),
  (trodAll_cons_mk (Below.trod lU aK (of_decide_eq_true aK) h0 bel lt0) (trodAll_cons_mk (Below.trod lU aK (of_decide_eq_true aK) h1 bel lt1) (trodAll_cons_mk (Below.trod lU aK (of_decide_eq_true aK) h2 bel lt2) (trodAll_cons_mk (Below.trod lU aK (of_decide_eq_true aK) h3 bel lt3) (trodAll_cons_mk (Below.trod lU aK (of_decide_eq_true aK) h4 bel lt4) trodAll_mk0))))),rfl,bel.frame _,λh=>by cases h⟩
theorem over9:(Rows.namespaceRejectsUptoRow.inPlace==Tryz.pinned.checked.prog.inPlace 7)=true:=aK
theorem over10:(Rows.namespaceRejectsUptoRow.unfollowed==Tryz.pinned.checked.prog.unfollowed 7)=true:=aK
theorem over11:(Rows.namespaceRejectsUptoRow.recurses==Tryz.pinned.checked.prog.recurses 7)=true:=aK
theorem over12:(Rows.namespaceRejectsUptoRow.named==Tryz.pinned.checked.prog.varsNamed 7)=true:=aK
theorem over13:(Rows.namespaceRejectsUptoRow.plainKeys==Tryz.pinned.checked.prog.plainKeys)=true:=aK
theorem over1:laidOutB Tryz.pinned.checked.prog=true:=aK
theorem over2:mapsRowed Tryz.pinned.checked.prog=true:=aK
theorem andT {a b:Bool} (h1:a=true) (h2:b=true):(a&&b)=true:=by rw[h1,h2];rfl
theorem closed:joinedFacts Tryz.pinned.checked.prog 7 Tryz.f7 (Rows.OpenSpec.upto Rows.namespaceRejectsSpec).bare Rows.namespaceRejectsUptoRow=true:=by
 unfold joinedFacts
 repeat' with_reducible refine andT ?_ ?_
 all_goals first
  |with_reducible exact over1
  |with_reducible exact over2
  |with_reducible exact over9
  |with_reducible exact over10
  |with_reducible exact over11
  |with_reducible exact over12
  |with_reducible exact over13
  |(with_reducible show _=true;kernel_rfl)
theorem over:Rows.NamespaceRejectsUptoSaid:=
 OpenClaim.holds_of_cond 7 Tryz.f7 rfl rfl rfl rfl rfl rfl rfl ⟨rfl,rfl,rfl,rfl,rfl⟩ rfl rfl rfl rfl rfl aK Tryz.func7 closed
  (of_decide_eq_true aK) (by unfold Func.isWrapper;first|(rw[if_pos (by decide+kernel)];kernel_rfl)|(rw[if_neg (by decide+kernel)];exact⟨rfl,rfl⟩))
  (λos started H enc _ F=>by rw[OpenClaim.pre_eq_preRow];exact lifted os started H enc F)
theorem card1:Rows.namespaceRejectsUptoRow.wfByText (Rows.OpenSpec.upto Rows.namespaceRejectsSpec)=true:=aK
theorem card2 : Tryz.pinned.checked.prog.mainIs = some ((true, "09cf7a60c04cc8033c44848ffdc974449db9c73d1b3c3f3137c27124a35616aa").1, (true, "09cf7a60c04cc8033c44848ffdc974449db9c73d1b3c3f3137c27124a35616aa").2.toList) := aK
theorem card3:true=Tryz.pinned.checked.prog.looks []:=aK
theorem card4:([22,22,3,49,32].all λu=> !Tryz.prog.wantsStandIn u)=true:=aK
theorem card5:false=Rows.namespaceRejectsUptoRow.goesBy Tryz.pinned.checked.prog:=aK
theorem card6 : Tryz.prog.funcNamed "platformfw/platformfwlaw12.NamespaceRejects" = some 7 := aK
theorem card:Rows.NamespaceRejectsUptoCardSaid:=
 Claim7.holds_tied_plain_at .later [] [.data, .data, .data, .data, .pinned] true (true, "09cf7a60c04cc8033c44848ffdc974449db9c73d1b3c3f3137c27124a35616aa") true over (λ_ h => by cases h) card1 (λ_ h => by cases h) namespaceRejectsUpto_row_tie rfl ⟨rfl, rfl⟩ card2 rfl
  (λf fn hf hfn=>by
    obtain rfl:f=7:=Z1c (card6.symm.trans hf)|>.symm;obtain rfl:fn=Tryz.f7:=(Z1c (Tryz.func7.symm.trans hfn)).symm
    exact⟨card3,λj t ht=>by
     rw[Tryz.params7] at ht
     have hm:t∈[22,22,3,49,32]:=by simpa using Z38 ht
     exact (show Tryz.prog.wantsStandIn t=false by simpa using Z0i.1 card4 t hm)⟩)
  card5
end NamespaceRejects
theorem namespaceRejectsUpto:Rows.NamespaceRejectsUptoCardSaid:=NamespaceRejects.card
end
end Go.Proofs.YtegjgpldfgjoiaaGreatDoor
