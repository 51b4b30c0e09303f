import Derived.Test.YtphdhedhhlfepaaGreatDoorCzC34
set_option linter.unusedSimpArgs false
set_option linter.unusedVariables false
namespace Go.Proofs.YtphdhedhhlfepaaGreatDoor
open Go Ab
open Go.ChangeShapes Go.WideShapes Go.ChangeAt Go.RowKit
set_option maxRecDepth 100000
theorem bulk_part {H:Type} {d:DataW H} {l:List (DataW H)} (h:d∈l):Rows.uptoBulk d≤Rows.uptoBulkAll l:=by
 induction l with
 |nil=>cases h
 |cons x r ih=>
  simp only[Rows.uptoBulkAll]
  rcases List.mem_cons.1 h with rfl|e
  ·omega
  ·have:=ih e;omega
section
variable {H:Type} {enc:TypeId×Value→H} {W:World} {base:Nat} {held:Bool}
theorem open_nodesU {r:Reach} {b0:Nat} {v:Value} {d:DataW H} {p:List MemPlace} (hv:Value.okWide Tryz.prog W r b0 22 v) (h:DataW.Trod enc Tryz.prog W base (fun _=>true) held 22 v d p) (hw:(d.weights Tryz.prog 22).all (·≤reachBytes)=true):
 ∃ l:List Nd,Vr (phW W) (nodes l) v∧wfN l∧wfI l∧∀ x∈l,x.str.length≤Rows.uptoBulk d:=by
 obtain⟨a0,len0,cap0,rfl⟩:=okWide_slice Tryz.underlying22 hv;obtain⟨fuel,hf⟩:=h
 rcases Go.Deep.open_slice Tryz.underlying22 hf with ⟨hcs,_⟩|⟨a,len,cap,m,n,D,Pl,hcs,_,hl,_,hm,hd,hx⟩
 ·simp[Value.cells] at hcs
  obtain⟨rfl,rfl,rfl⟩:=hcs;exact⟨[],.nil _ _ _ _ (fun _=>rfl),fun x hx=>(by cases hx),fun x hx=>(by cases hx),fun x hx=>(by cases hx)⟩
 ·simp[Value.cells] at hcs
  obtain⟨rfl,rfl,rfl⟩:=hcs;simp only[if_true] at hm;subst hm;rw[cellsNd] at hx
  have hwt:∀ i,i<len0→((D i).weights Tryz.prog 30).all (·≤reachBytes)=true:=fun i hi=>by
   have e:d=.slice ((List.range len0).map D) ((List.range (m-len0)).map fun j=>D (len0+j)):=congrArg Prod.fst hd;rw[e] at hw;unfold DataW.weights at hw;rw[Tryz.underlying22] at hw;simp only[List.all_cons,List.all_append,Bool.and_eq_true] at hw;exact weightsAll_mem hw.2.1 (List.mem_map.2 ⟨i,List.mem_range.2 hi,rfl⟩)
  have hbk:∀ i,i<len0→Rows.uptoBulk (D i)≤Rows.uptoBulk d:=fun i hi=>by
   have e:d=.slice ((List.range len0).map D) ((List.range (m-len0)).map fun j=>D (len0+j)):=congrArg Prod.fst hd;have h1:=bulk_part (List.mem_map.2 ⟨i,List.mem_range.2 hi,rfl⟩:D i∈(List.range len0).map D);rw[e];simp only[Rows.uptoBulk];omega
  have each:∀ i,i<m→∃ q:Nd,((i<len0→q.str.length≤reachBytes∧q.str.length≤Rows.uptoBulk d)∧0≤q.int)∧∀ j,j<4→W.cell? (a.add (i*4+j))=[Value.int .i64 q.op,.int .u64 q.int,.string ⟨q.str.toArray⟩,.int .i64 q.kids][j]? :=by
   intro i hi;obtain⟨cs',h1,h2⟩:=hx i hi;obtain⟨_,hlen,hcell⟩:=World.cells?_some h1;obtain⟨xs,k,hk,hxy,_,hxl,hfld⟩:=DataW.trod_struct Tryz.underlying30 h2
   match xs,hxl,cs',hlen with
   |[y0,y1,y2,y3],_,[v0,v1,v2,v3],_=>
    have g0:=hfld 0 _ rfl;have g1:=hfld 1 _ rfl;have g2:=hfld 2 _ rfl;have g3:=hfld 3 _ rfl;simp[cellsI,cellsU,cells9] at g0 g1 g2 g3;obtain⟨n0,e0,_,w0⟩:=DataW.trod_int Tryz.underlying3 g0;obtain⟨n1,e1,_,w1⟩:=DataW.trod_int Tryz.underlying28 g1;obtain⟨s2,e2,e2',m2⟩:=DataW.trod_string Tryz.underlying9 g2;obtain⟨n3,e3,_,w3⟩:=DataW.trod_int Tryz.underlying3 g3;simp only[List.cons.injEq,and_true] at e0 e1 e2 e3;subst e0;subst e1;subst e2;subst e3
    have hsl:i<len0→s2.data.toList.length≤reachBytes∧s2.data.toList.length≤Rows.uptoBulk d:=fun hi0=>by
     have hwi:=hwt i hi0;have hbi:=hbk i hi0;have hDi:D i=.agg [y0.1,y1.1,y2.1,y3.1]:=congrArg Prod.fst hxy;rw[hDi,e2'] at hwi hbi;simp only[Rows.uptoBulk,Rows.uptoBulkAll] at hbi;unfold DataW.weights at hwi;rw[Tryz.underlying30] at hwi;simp only[DataW.weightsEach,DataW.weights,List.map_cons,List.map_nil,List.all_append,List.all_cons,List.all_nil,Bool.and_eq_true,decide_eq_true_eq] at hwi;exact⟨hwi.2.2.1.1,by omega⟩
    refine⟨⟨n0,n1,s2.data.toList,n3⟩,⟨hsl,(wf_u64 w1).1⟩,fun j hj=>?_⟩;have hc:=hcell j (by simpa using hj);rw[Go.Deep.add_add] at hc;rw[hc]
    try rw[←str_val s2]
  obtain⟨f,hfq⟩:=Go.Deep.choose_lt each
  have hget:∀ i,i<len0→((List.range len0).map f).getD i dN=f i:=fun i hi=>by
   rw[List.getD_eq_getElem?_getD,List.getElem?_map,List.getElem?_range hi];rfl
  have hmem:∀ x∈(List.range len0).map f,∃ i,i<len0∧x=f i:=fun x hx=>by
   obtain⟨i,hi,rfl⟩:=List.mem_map.1 hx;exact⟨i,List.mem_range.1 hi,rfl⟩
  refine⟨(List.range len0).map f,?_,fun x hx=>?_,fun x hx=>?_,fun x hx=>?_⟩
  ·show Pr (zW W) (.frz _ 4 ((List.range len0).map f).length) _
   rw[show ((List.range len0).map f).length=len0 by simp];by_cases h0:len0=0
   ·subst h0
    exact .nil _ _ _ _ (fun e=>by cases e)
   obtain⟨b,off,spot⟩:=a
   have hspot:spot=none:=by simpa [Addr.add] using World.cell?_spot ((hfq 0 (by omega)).2 0 (by omega))
   subst hspot
   have hc:∀ i j,i<m→j<4→W.cell? ⟨b,off+(i*4+j),none⟩=[Value.int .i64 (f i).op,.int .u64 (f i).int,.string ⟨(f i).str.toArray⟩,.int .i64 (f i).kids][j]? :=fun i j hi hj=>by
    have:=(hfq i hi).2 j hj
    rwa [addr_at] at this
   obtain⟨vs,hz,_⟩:=cell_z (hc 0 0 (by omega) (by omega));refine .frz _ 4 len0 b off m vs hz hl (fun i j=>[Value.int .i64 (f i).op,.int .u64 (f i).int,.string ⟨(f i).str.toArray⟩,.int .i64 (f i).kids].getD j (.bool false)) (fun _ _=>rfl) (fun i j x hi hj=>?_) (fun i j x hi hj=>?_)
   ·rw[hget i hi] at hj
    have hj4:j<4:=by
     rcases Nat.lt_or_ge j 4 with h|h
     ·exact h
     ·rw[List.getElem?_eq_none (by simpa [ndC] using h)] at hj;cases hj
    have h4:=hc i j (by omega) hj4;rw[List.getElem?_eq_getElem (by simpa using hj4)] at h4;obtain⟨vs',hz',h3⟩:=cell_z h4;rw[hz] at hz';cases hz';rw[h3,List.getD_eq_getElem?_getD,List.getElem?_eq_getElem (by simpa using hj4)];rfl
   ·rw[hget i hi] at hj
    rcases j with _|_|_|_|j
    ·cases hj;exact .int _ _
    ·cases hj;exact .int _ _
    ·cases hj;exact .str _
    ·cases hj;exact .int _ _
    ·simp[ndC] at hj
  ·obtain⟨i,hi,rfl⟩:=hmem x hx
   exact Nat.lt_of_le_of_lt ((hfq i (by omega)).1.1 hi).1 (by decide)
  ·obtain⟨i,hi,rfl⟩:=hmem x hx
   exact (hfq i (by omega)).1.2
  ·obtain⟨i,hi,rfl⟩:=hmem x hx
   exact ((hfq i (by omega)).1.1 hi).2
end
end Go.Proofs.YtphdhedhhlfepaaGreatDoor
