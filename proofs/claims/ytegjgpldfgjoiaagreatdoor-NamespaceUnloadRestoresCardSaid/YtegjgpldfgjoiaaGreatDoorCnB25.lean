import Derived.Test.YtegjgpldfgjoiaaGreatDoorCnB24
import Derived.Test.YtegjgpldfgjoiaaGreatDoorCnB08
set_option linter.unusedSimpArgs false
set_option linter.unusedVariables false
namespace Go.Proofs.YtegjgpldfgjoiaaGreatDoor
open Go Ab
set_option maxRecDepth 100000
set_option maxHeartbeats 4000000
theorem mT (nt num:Int) (p:List Nd) (Eo:List Nat) (H:PrO p) (s:S) (hs:isJ s=false) (T:List Tb) (E:List Ent) (rs:List Int) (hrs:rs.length<=50000) (m:Nat) (d:Fd) (hd:FdOK p m E.length d) (hrg:RegE T E) (hbt:BitO E) (R:List Ent×List Int×Int) (hR:eK p T d d.node.toNat E rs=R):
 FC Tryz.prog 70 [.s (.ptr (some (0,0))),.agg (fdC d)] 6 (hL nt num p Eo s T E rs) (.s (.int .i64 R.2.2)) 8 (hL' nt num p Eo s T R.1 R.2.1):=by
 obtain⟨i,e1,e2,e3⟩:=hd.node
 have hR:eK p T d i E rs=R:=by rw[<-hR,e1];rfl
 have h:=fun x=>vM nt num p Eo H.hw H.hI x T E rs hrs d i e2 H.hp e1 hd.scope (fun u hu=>by have:=hd.units u hu;omega) hd.len hd.b0 hd.b1 e3 hrg hbt R hR
 exact⟨(h (.int .i64 0)).1,SC.cst (i:=0) (o:=8) (i':=0) (o':=8) (s:=s) rfl rfl rfl rfl hs rfl rfl fun y hy=>(h y).2⟩
theorem oA {nt num:Int} {p:List Nd} {Eo:List Nat} {T:List Tb} {E:List Ent} {rs:List Int}:okH 6 (hL nt num p Eo .unk T E rs)=true:=by
 unfold hL unB;generalize List.map _ rs=cg
 cases cg<;>rfl
abbrev ldM (a b c:Nat) (nx nt num:Int) (p:List Nd) (Eo:List Nat) (fs rs:S):Bl:={cells:=[.map (some a),.map (some b),.map (some c),.int .i64 nx,.int .i64 nt,.int .i64 num,.frz (fun k=>ndC (p.getD k dN)) 4 p.length,.frz (fun k=>[.int .i64 ((Eo.getD k 0:Nat):Int)]) 1 Eo.length,fs,rs],ty:=123}
def fdZ:Fd:=⟨0,[],[],0⟩
section
variable {P:Program} {b:Nat} {env:List V} {n:Nat} {L:Hp} {R:Post}
theorem Ex.ld13 {ops:Array Oper} {d:Bool} (j i:Nat) {bl:Bl} (hn:n<=i) (hl:lk L j=some bl) (ho:bl.cells[8]? =some (.slc none 0 (some 0))) {L':Hp} (hL:put L j (some {bl with cells:=bl.cells.set 8 (.row i (i+1) 0)})=L') (k:Ex P b (.region 13 ops d) env (i+2) L' R):Ex P b (.region 13 ops d) env n L R:=
 Ex.cel j 8 hl ho SLe.nilrow hL (Ex.upN (by omega) k)
theorem Ex.cel23 {ops:Array Oper} {d:Bool} (j o:Nat) {s s':S} {bl:Bl} (hl:lk L j=some bl) (ho:bl.cells[o]? =some s) (hle:SLe s s') {L':Hp} (hL:put L j (some {bl with cells:=bl.cells.set o s'})=L') (k:Ex P b (.region 23 ops d) env n L' R):Ex P b (.region 23 ops d) env n L R:=Ex.cel j o hl ho hle hL k
theorem Ex.fzC23 {ops:Array Oper} {d:Bool} (j o:Nat) (get:Nat->List S) (sz:Nat) {s:S} {i N:Nat} {bl blj:Bl} (hlj:lk L j=some blj) (hij:i≠j) (hs:blj.cells[o]? =some s) (ht:ct (.s s)=some (i,N)) (hl:lk L i=some bl) (hro:bl.ro=false) (hk:bl.kind=none)
 (hg:∀ k,k<N->(get k).length=sz) (hc:∀ k j x,k<N->(get k)[j]? =some x->bl.cells[k*sz+j]? =some x/\aY x=true)
 {L':Hp} (hL:put (put L i none) j (some {blj with cells:=blj.cells.set o (.frz get sz N)})=L') (k:Ex P b (.region 23 ops d) env n L' R):Ex P b (.region 23 ops d) env n L R:=Ex.fzC j o get sz hlj hij hs ht hl hro hk hg hc hL k
theorem Db (fs:List Fd) {k j:Nat} {x:S} (hk:k<fs.length) (hx:(fdC (fs.getD k fdZ))[j]? =some x):(fs.flatMap fdC)[k*4+j]? =some x/\aY x=true:=by
 refine⟨dE fdC 4 fdZ (fun _=>rfl) hk hx,?_⟩
 rcases j with _|_|_|_|j
 ·cases hx;rfl
 ·cases hx;rfl
 ·cases hx;rfl
 ·cases hx;rfl
 ·simp[fdC] at hx
theorem Ex.frow {c:Code} (t i:Nat) (fs:List Fd) (ht:env.getD t .undef=.s (.row i (i+1) fs.length)) (hl:lk L i=fdB i fs) {env':List V} (he:env.set t (.s (.frz (fun k=>fdC (fs.getD k fdZ)) 4 fs.length))=env') {L':Hp} (hL:put L i none=L') (k:Ex P b c env' n L' R):Ex P b c env n L R:=by
 cases fs with
 |nil=>
  subst hL;refine Ex.set t _ (by rw[ht];exact VLe.s SLe.row0) he (Ex.subF (fun j bl hj=>?_) k);rw[ax] at hj;split at hj
  ·cases hj
  ·exact⟨bl,hj,rfl,fun _ _ _ h=>h⟩
 |cons x fs=>
  have hlen:t<env.length:=by
   rcases Nat.lt_or_ge t env.length with h|h
   ·exact h
   ·rw[List.getD_eq_getElem?_getD,List.getElem?_eq_none h] at ht;cases ht
  refine Ex.set t (.s (.sla i (i+1) (x::fs).length)) (by rw[ht];exact VLe.s (SLe.rowsla (Nat.succ_pos _))) rfl ?_;refine Ex.fz t (fun k=>fdC ((x::fs).getD k fdZ)) 4 (bl:={cells:=(x::fs).flatMap fdC,ty:=129,more:=true,sym:=true,flat:=true,gh:=some (i+1,4)}) (i:=i) (N:=(x::fs).length) ?_ hl rfl rfl (fun _ _=>rfl) (fun k j y hk hx=>Db (x::fs) hk hx) ?_ hL k
  ·rw[List.getD_eq_getElem?_getD,List.getElem?_set,if_pos rfl,if_pos hlen];rfl
  ·rw[<-he,List.set_set]
end
theorem yU (p:List Nd) (H:PrO p) (G:Dgs) (hG:G.length<=1000000000) (hck:FC Tryz.prog 65 [ae p] 0 [] (pn G) 0 []) (h6:C6 G) (t:Fo) (ha:t.At p 0) (hv:t.V (List.replicate t.cnt (false,68))) (hs:t.size=p.length) (hE:EOK p (aH t)) (hen:FC Tryz.prog 68 [ae p] 0 [] (.s (.frz (fun k=>[.int .i64 (((aH t).getD k 0:Nat):Int)]) 1 (aH t).length)) 0 [])
 (E:List Ent) (T:List Tb) (hT:T.length<=10) (hreg:RegE T E) (hbit:BitO E) (D:DR) (hD:aW p (1+(T.length:Int)) false t 0 ⟨true,0,[]⟩ E []=D) (R:List Ent×List Int×Int) (hR:fJ p (T++[⟨p,[]⟩]) D.2.1 D.1 []=R)
 (v:V) (n':Nat) (L':Hp) (hA:D.2.2≠0->v=.tup [.s (.int .i64 0),.s (.int .i64 D.2.2)]/\n'=7/\L'=spN E T) (hB:D.2.2=0->R.2.2≠0->v=.tup [.s (.int .i64 0),.s (.int .i64 R.2.2)]/\n'=7/\L'=spN E T)
 (hC:D.2.2=0->R.2.2=0->v=.tup [.s (.int .i64 (1+(T.length:Int))),.s (.int .i64 0)]/\n'=7/\L'=[(0,some (bn 4 5 6 (R.1.length:Nat) (1+(T.length:Int)+1))),(1,none),(2,none),(3,none),(4,some (oB R.1)),(5,some (pB R.1)),(6,some (tB (T++[⟨p,R.2.1⟩])))]):
 FC Tryz.prog 25 [.s (.ptr (some (0,0))),ae p] 4 (spL E T) v n' L':=by
 have hp:=H.hp;have hcl:=ni E T (E.length:Nat) (1+(T.length:Int));have hcn:=l9 p (by omega);have hdg:=gx (num:=1+(T.length:Int)) (m:=E.length) H t.size t 0 ⟨true,0,[]⟩ E [] (Nat.le_refl _) ha hv ⟨Nat.le_refl _,hbit,fun d hd=>by cases hd⟩;have hdl:=dH (p:=p) (num:=1+(T.length:Int)) false t 0 ⟨true,0,[]⟩ E [];have hdc:=tC (1+(T.length:Int)+1) (1+(T.length:Int)) p (aH t) hp hE t.size (l6 (1+(T.length:Int)+1) (1+(T.length:Int)) p (aH t) hp H.hw H.hI H.hO H.hN hE t.size) t 0 ⟨true,0,[]⟩ E [] (Nat.le_refl _) ha hv rfl (by simp only[List.length_nil];omega);rw[hD] at hdg hdl hdc;obtain⟨E1,fs,e⟩:=D;simp only at hdg hdl hdc hR hA hB hC;have hel:=hE.len
 have hTn:∃ j:Nat,1+(T.length:Int)=1+(j:Int)/\j<(T++[(⟨p,[]⟩:Tb)]).length/\((T++[(⟨p,[]⟩:Tb)]).getD j tZ).p=p:=⟨T.length,rfl,by simp,by simp⟩
 have hr1:RegE (T++[⟨p,[]⟩]) E1:=RegE.gro H hTn hdg.1 (RegE.tab _ (by simp) (fun j hj=>by rw[bG hj]) hreg);refine FC.walk (by kernel_rfl) Tryz.func25 rfl rfl ?_
 repeat'(first|exact y0|refine y1 ?_|refine y2 ?_ ?_|(refine y8 ?_ ?_<;>intro h<;>try exact y6)|(refine wC ?_;first|refine wF 65 (pu hck ?_))|refine y3 ?_|refine y7 ?_ ?_|refine y4 ?_|(refine y9 ?_ ?_<;>intro h)|exact y5|fail)
 refine Ex.inv (σ:=Nat) (fun i=>[(16,nI (i:Nat))]) (fun _=>spL E T) (fun i=>i<=G.length) (fun i=>G.length-i) 0 rfl (fun _=>rfl) (Nat.zero_le _) ⟨VLe.refl _,trivial⟩ ⟨rfl,rfl,rfl,rfl,trivial⟩ ?_;intro j hj;by_cases hlt:j<G.length
 ·have hc:(G.getD j (0,0)).2=6:=h6 _ (Ep hlt)
  repeat'(first|exact y0|refine y1 ?_|refine y2 ?_ ?_|(refine y8 ?_ ?_<;>intro h<;>try exact y6)|refine y3 ?_|refine y7 ?_ ?_|refine y4 ?_|(refine y9 ?_ ?_<;>intro h)|exact y5|fail)
  refine LoopR.same (j+1) hlt (by omega) rfl ⟨VLe.of_eq (congrArg nI (by push_cast;omega)),trivial⟩ ⟨rfl,rfl,rfl,rfl,trivial⟩ rfl rfl (by decide)
 by_cases he:e=0
 ·subst he
  repeat'(first|refine Ex.ld13 7 8 (by decide) rfl rfl rfl ?_|exact y0|refine y1 ?_|refine y2 ?_ ?_|(refine y8 ?_ ?_<;>intro h<;>try(exact y6))|(refine wC ?_;first|(refine wF 66 ?_;refine CallG.mv [0,1,2,3] 0 (bl1:={bn 1 2 3 (E.length:Nat) (1+(T.length:Int)) with ro:=true}) hcl rfl rfl ⟨VLe.refl _,trivial⟩ rfl rfl (fun φ w b h=>BlAt.weaken h true (fun _=>rfl)) rfl ⟨⟨rfl,_,rfl,rfl,fun h=>h⟩,⟨rfl,_,rfl,rfl,fun h=>h⟩,⟨rfl,_,rfl,rfl,fun h=>h⟩,⟨rfl,_,rfl,rfl,fun h=>h⟩,trivial⟩ rfl rfl rfl rfl ?_)|refine wF 67 (pu hcn ?_)|refine wF 68 (pu hen ?_)|(refine wF 69 ?_;refine CallG.mo [7,4,5,6,8,9] hdc rfl dJ rfl rfl rfl ⟨VLe.refl _,VLe.refl _,VLe.of_eq (congrArg nI (by rw[hs];omega)),VLe.agg ⟨SLe.refl _,SLe.refl _,SLe.nil,trivial⟩,trivial⟩ ⟨⟨rfl,_,rfl,rfl,fun h=>h⟩,⟨rfl,_,rfl,rfl,fun h=>h⟩,⟨rfl,_,rfl,rfl,fun h=>h⟩,FitP.op rfl rfl trivial⟩ rfl rfl (wr:=[(7,some (ldM 4 5 6 (E1.length:Nat) (1+(T.length:Int)+1) (1+(T.length:Int)) p (aH t) (.row 10 11 fs.length) (.slc none 0 (some 0)))),(4,some (oB E1)),(5,some (pB E1)),(8,none),(10,fdB 10 fs)]) (by show [_,_,_,_,_]=_;rw[ah];rfl) ?_))|refine RegX.tLen rfl rfl rfl rfl ?_|refine RegX.tNew ⟨p,[]⟩ rfl rfl ?_ ?_ rfl rfl rfl rfl ?_|refine y3 ?_|refine y7 ?_ ?_|refine y4 ?_|(refine y9 ?_ ?_<;>intro h)|exact y5|fail)
  all_goals try first
   |omega
   |exact VLe.agg ⟨SLe.refl _,SLe.nil,trivial⟩
  have hB:=hB rfl;have hC:=hC rfl;have hml:=hdg.1.len
  have hfl:fs.length<=2048:=by simp only[List.length_nil] at hdl;omega
  refine Ex.frow 85 10 fs rfl rfl rfl rfl ?_;refine Ex.cel 7 8 (s':=.unk) rfl rfl (fun φ x h=>Sr.cell h rfl) rfl ?_;refine Ex.cel 7 9 (s':=.row 12 13 0) rfl rfl SLe.nilrow rfl (Ex.upN (n':=14) (by decide) ?_);refine Ex.canon [0,1,2,3,4,5,6,7,12,13] 126 [(0,.s (.ptr (some (0,0)))),(8,.s (.ptr (some (7,0)))),(85,.s (.frz (fun k=>fdC (fs.getD k fdZ)) 4 fs.length)),(86,nI fs.length),(87,nI 0)] [(0,some (bn 1 2 3 (E.length:Nat) (1+(T.length:Int)))),(1,some (oB E)),(2,some (pB E)),(3,some (tB T)),(4,some (oB E1)),(5,some (pB E1)),(6,some (tB (T++[⟨p,[]⟩]))),(7,some (ldM 4 5 6 (E1.length:Nat) (1+(T.length:Int)+1) (1+(T.length:Int)) p (aH t) .unk (.row 8 9 0)))] rfl rfl ⟨VLe.refl _,VLe.refl _,VLe.refl _,VLe.refl _,VLe.refl _,trivial⟩ ⟨rfl,rfl,rfl,rfl,rfl,rfl,rfl,rfl,trivial⟩ rfl ?_
  refine Ex.inv (σ:=Nat×List Ent×List Int) (fun q=>[(87,nI q.1)]) (fun q=>[(0,some (bn 1 2 3 (E.length:Nat) (1+(T.length:Int)))),(1,some (oB E)),(2,some (pB E)),(3,some (tB T)),(4,some (oB q.2.1)),(5,some (pB q.2.1)),(6,some (tB (T++[⟨p,[]⟩]))),(7,some (ldM 4 5 6 (q.2.1.length:Nat) (1+(T.length:Int)+1) (1+(T.length:Int)) p (aH t) .unk (.row 8 9 q.2.2.length))),(8,unB 8 q.2.2)])
   (fun q=>q.1<=fs.length/\q.2.1.length=E1.length/\(BitO q.2.1/\RegE (T++[⟨p,[]⟩]) q.2.1)/\RefG E1.length q.2.2/\q.2.2.length<=2*q.1/\fJ p (T++[⟨p,[]⟩]) (fs.drop q.1) q.2.1 q.2.2=R) (fun q=>fs.length-q.1) (0,E1,[]) rfl (fun _=>rfl) ?_ ?_ ?_ ?_
  ·exact⟨Nat.zero_le _,rfl,⟨hdg.2.1,hr1⟩,fun r hr=>(by cases hr),Nat.le_refl _,hR⟩
  ·exact⟨VLe.refl _,trivial⟩
  ·exact⟨rfl,rfl,rfl,rfl,rfl,rfl,rfl,rfl,trivial⟩
  rintro⟨j,E2,rs⟩ ⟨j1,j2,⟨j3,j4⟩,j5,j6,j7⟩;simp only at j1 j2 j3 j4 j5 j6 j7 |-;by_cases hj:j<fs.length
  ·have hdr:fs.drop j=fs.getD j fdZ::fs.drop (j+1):=by rw[List.drop_eq_getElem_cons hj,List.getD_eq_getElem?_getD,List.getElem?_eq_getElem hj];rfl
   have hmem:fs.getD j fdZ∈fs:=by rw[List.getD_eq_getElem?_getD,List.getElem?_eq_getElem hj];exact List.getElem_mem hj
   have hd:=(hdg.2.2 _ hmem).mono (N':=E2.length) (by rw[j2];exact Nat.le_refl _);have hres:=mT (1+(T.length:Int)+1) (1+(T.length:Int)) p (aH t) H .unk rfl (T++[⟨p,[]⟩]) E2 rs (by omega) E.length _ hd j4 j3 _ rfl;have hro:=sH (num:=1+(T.length:Int)) (T:=T++[⟨p,[]⟩]) (i:=(fs.getD j fdZ).node.toNat) (rs:=rs) hd j3 (by rw[j2];exact j5);rw[hdr,fJ] at j7;generalize eK p (T++[⟨p,[]⟩]) (fs.getD j fdZ) (fs.getD j fdZ).node.toNat E2 rs=Q at hres hro j7;obtain⟨E3,rs3,e⟩:=Q;simp only at hres hro j7;obtain⟨⟨o1,o2⟩,o3,o4,o5⟩:=hro;by_cases he:e=0
   ·subst he
    rw[if_pos rfl] at j7
    repeat'(first|exact y0|refine y1 ?_|refine y2 ?_ ?_|(refine y8 ?_ ?_<;>intro h<;>try(exact y6))|(refine wC ?_;first|(refine wF 70 ?_;refine CallG.mo [7,4,5,6,8,9] hres rfl oA rfl rfl rfl ⟨VLe.refl _,VLe.refl _,trivial⟩ ⟨⟨rfl,_,rfl,rfl,fun h=>h⟩,⟨rfl,_,rfl,rfl,fun h=>h⟩,⟨rfl,_,rfl,rfl,fun h=>h⟩,⟨rfl,_,rfl,rfl,fun h=>h⟩,FitP.op rfl rfl trivial⟩ rfl rfl (wr:=[(7,some (ldM 4 5 6 (E3.length:Nat) (1+(T.length:Int)+1) (1+(T.length:Int)) p (aH t) .unk (.row 11 12 rs3.length))),(4,some (oB E3)),(5,some (pB E3)),(6,some (tB (T++[⟨p,[]⟩]))),(8,none),(11,unB 11 rs3)]) (by show [_,_,_,_,_,_]=_;rw[ah];rfl) ?_))|refine y3 ?_|refine y7 ?_ ?_|refine y4 ?_|(refine y9 ?_ ?_<;>intro h)|exact y5|fail)
    all_goals try first
     |omega
     |exact aa (by omega) (by omega)
    refine LoopR.move (j+1,E3,rs3) ⟨by simp only;omega,by simp only;omega,⟨o2,RegE.gro H hTn o1 j4⟩,by rw[j2] at o4;exact o4,by simp only;omega,j7⟩ (by simp only;omega) [0,1,2,3,4,5,6,7,11,12] rfl ?_ ?_ ?_
    ·repeat' (first|exact VLe.refl _|exact VLe.any _|exact True.intro|exact VLe.of_eq (congrArg nI (by push_cast;omega))|refine⟨?_,?_⟩)
    ·exact⟨rfl,rfl,rfl,rfl,rfl,rfl,rfl,rfl,MemP.op rfl trivial⟩
    ·unfold unB
     generalize List.map _ rs3=cg
     cases cg<;>rfl
   ·rw[if_neg he] at j7
    obtain⟨rfl,rfl,rfl⟩:=hB (by rw[<-j7];exact he);subst j7
    repeat'(first|exact y0|refine y1 ?_|refine y2 ?_ ?_|(refine y8 ?_ ?_<;>intro h<;>try(exact y6))|(refine wC ?_;first|(refine wF 70 ?_;refine CallG.mo [7,4,5,6,8,9] hres rfl oA rfl rfl rfl ⟨VLe.refl _,VLe.refl _,trivial⟩ ⟨⟨rfl,_,rfl,rfl,fun h=>h⟩,⟨rfl,_,rfl,rfl,fun h=>h⟩,⟨rfl,_,rfl,rfl,fun h=>h⟩,⟨rfl,_,rfl,rfl,fun h=>h⟩,FitP.op rfl rfl trivial⟩ rfl rfl (wr:=[(7,some (ldM 4 5 6 (E3.length:Nat) (1+(T.length:Int)+1) (1+(T.length:Int)) p (aH t) .unk (.row 11 12 rs3.length))),(4,some (oB E3)),(5,some (pB E3)),(6,some (tB (T++[⟨p,[]⟩]))),(8,none),(11,unB 11 rs3)]) (by show [_,_,_,_,_,_]=_;rw[ah];rfl) ?_))|refine y3 ?_|refine y7 ?_ ?_|refine y4 ?_|(refine y9 ?_ ?_<;>intro h)|exact y5|fail)
    all_goals try first
     |omega
     |exact aa (by omega) (by omega)
    exact⟨.inl rfl,_,[1,2,3],VLe.refl _,EndOK.move rfl ⟨rfl,rfl,rfl,rfl,trivial⟩ rfl rfl rfl rfl rfl⟩
  ·have hdr:fs.drop j=[]:=by simp;omega
   rw[hdr,fJ] at j7;subst j7;obtain⟨rfl,rfl,rfl⟩:=hC rfl;simp only
   cases rs with
   |nil=>
    repeat'(first|refine Ex.cel23 7 9 (s':=Aa []) rfl rfl SLe.row0 rfl ?_|exact y0|refine y1 ?_|refine y2 ?_ ?_|(refine y8 ?_ ?_<;>intro h<;>try(exact y6))|refine RegX.tUpd T.length ⟨p,[]⟩ rfl rfl ?_ ?_ ?_ rfl rfl rfl rfl ?_|refine y3 ?_|refine y7 ?_ ?_|refine y4 ?_|(refine y9 ?_ ?_<;>intro h)|exact y5|fail)
    all_goals try first
     |omega
     |exact VLe.refl _
    have hset:(T++[(⟨p,[]⟩:Tb)]).set T.length ⟨p,[]⟩=T++[⟨p,[]⟩]:=by simp
    refine⟨.inl rfl,_,[4,5,6],VLe.refl _,EndOK.by rfl ⟨rfl,rfl,rfl,?_,trivial⟩ rfl rfl rfl rfl⟩;exact (show some (tB ((T++[(⟨p,[]⟩:Tb)]).set T.length ⟨p,[]⟩))=some (tB (T++[⟨p,[]⟩])) by rw[hset])
   |cons r rs=>
    repeat'(first|refine Ex.fzC23 7 9 (fun k=>[.int .i64 ((r::rs).getD k 0)]) 1 rfl (by decide) rfl rfl rfl rfl rfl (fun _ _=>rfl) (kV _) rfl ?_|exact y0|refine y1 ?_|refine y2 ?_ ?_|(refine y8 ?_ ?_<;>intro h<;>try(exact y6))|refine RegX.tUpd T.length ⟨p,r::rs⟩ rfl rfl ?_ ?_ ?_ rfl rfl rfl rfl ?_|refine y3 ?_|refine y7 ?_ ?_|refine y4 ?_|(refine y9 ?_ ?_<;>intro h)|exact y5|fail)
    all_goals try first
     |omega
     |exact VLe.refl _
    have hset:(T++[(⟨p,[]⟩:Tb)]).set T.length ⟨p,(r::rs)⟩=T++[⟨p,(r::rs)⟩]:=by simp
    refine⟨.inl rfl,_,[4,5,6],VLe.refl _,EndOK.by rfl ⟨rfl,rfl,rfl,?_,trivial⟩ rfl rfl rfl rfl⟩;exact (show some (tB ((T++[(⟨p,[]⟩:Tb)]).set T.length ⟨p,(r::rs)⟩))=some (tB (T++[⟨p,(r::rs)⟩])) by rw[hset])
 ·obtain⟨rfl,rfl,rfl⟩:=hA he
  repeat'(first|refine Ex.ld13 7 8 (by decide) rfl rfl rfl ?_|exact y0|refine y1 ?_|refine y2 ?_ ?_|(refine y8 ?_ ?_<;>intro h<;>try(exact y6))|(refine wC ?_;first|(refine wF 66 ?_;refine CallG.mv [0,1,2,3] 0 (bl1:={bn 1 2 3 (E.length:Nat) (1+(T.length:Int)) with ro:=true}) hcl rfl rfl ⟨VLe.refl _,trivial⟩ rfl rfl (fun φ w b h=>BlAt.weaken h true (fun _=>rfl)) rfl ⟨⟨rfl,_,rfl,rfl,fun h=>h⟩,⟨rfl,_,rfl,rfl,fun h=>h⟩,⟨rfl,_,rfl,rfl,fun h=>h⟩,⟨rfl,_,rfl,rfl,fun h=>h⟩,trivial⟩ rfl rfl rfl rfl ?_)|refine wF 67 (pu hcn ?_)|refine wF 68 (pu hen ?_)|(refine wF 69 ?_;refine CallG.mo [7,4,5,6,8,9] hdc rfl dJ rfl rfl rfl ⟨VLe.refl _,VLe.refl _,VLe.of_eq (congrArg nI (by rw[hs];omega)),VLe.agg ⟨SLe.refl _,SLe.refl _,SLe.nil,trivial⟩,trivial⟩ ⟨⟨rfl,_,rfl,rfl,fun h=>h⟩,⟨rfl,_,rfl,rfl,fun h=>h⟩,⟨rfl,_,rfl,rfl,fun h=>h⟩,FitP.op rfl rfl trivial⟩ rfl rfl (wr:=[(7,some (ldM 4 5 6 (E1.length:Nat) (1+(T.length:Int)+1) (1+(T.length:Int)) p (aH t) (.row 10 11 fs.length) (.slc none 0 (some 0)))),(4,some (oB E1)),(5,some (pB E1)),(8,none),(10,fdB 10 fs)]) (by show [_,_,_,_,_]=_;rw[ah];rfl) ?_))|refine RegX.tLen rfl rfl rfl rfl ?_|refine RegX.tNew ⟨p,[]⟩ rfl rfl ?_ ?_ rfl rfl rfl rfl ?_|refine y3 ?_|refine y7 ?_ ?_|refine y4 ?_|(refine y9 ?_ ?_<;>intro h)|exact y5|fail)
  all_goals try first
   |omega
   |exact VLe.agg ⟨SLe.refl _,SLe.nil,trivial⟩
  exact⟨.inl rfl,_,[1,2,3],VLe.refl _,EndOK.move rfl ⟨rfl,rfl,rfl,rfl,trivial⟩ rfl rfl rfl rfl rfl⟩
set_option maxRecDepth 100000
set_option maxHeartbeats 4000000
structure LoadR (p:List Nd) (E:List Ent) (T:List Tb) (E':List Ent) (T':List Tb) (z e:Int):Prop where
 h:FC Tryz.prog 25 [.s (.ptr (some (0,0))),ae p] 4 (spL E T) (.tup [.s (.int .i64 z),.s (.int .i64 e)]) 7 (spN E' T')
 o:(e≠0/\z=0/\E'=E/\T'=T)\/(e=0/\z=1+(T.length:Int)/\∃ rs,T'=T++[⟨p,rs⟩]/\PrO p/\Gro p (1+(T.length:Int)) E.length E E'/\RefG E'.length rs/\RegE T' E'/\BitO E')
theorem Ch (p:List Nd) (T:List Tb) (d:Fd) (i:Nat) (E:List Ent) (rs:List Int):(eK p T d i E rs).2.1.length<=rs.length+2:=by
 unfold eK;split
 ·cases ec p E d.scope (i+1) 15<;>simp
 ·have h1:=ly (ec p E d.scope (i+1) 18)
  have h2:=ly (ec p E d.scope (i+2) 18)
  cases e1:ec p E d.scope (i+1) 18<;>cases e2:ec p E d.scope (i+2) 18<;>simp[kp]
theorem un (p:List Nd) (T:List Tb):∀ (fs:List Fd) (E:List Ent) (rs:List Int),(fJ p T fs E rs).2.1.length<=rs.length+2*fs.length
 |[],E,rs=>Nat.le_refl _
 |d::fs,E,rs=>by
  have h:=Ch p T d d.node.toNat E rs;rw[fJ];simp only[List.length_cons];split
  ·have:=un p T fs (eK p T d d.node.toNat E rs).1 (eK p T d d.node.toNat E rs).2.1
   omega
  ·omega
theorem oL (p:List Nd) (hw:wfN p) (hI:wfI p) (E:List Ent) (T:List Tb) (hT:T.length<=10) (hreg:RegE T E) (hbit:BitO E):∃ E' T' z e,LoadR p E T E' T' z e/\(e=0->∀ rs,T'=T++[⟨p,rs⟩]->rs.length<=4096):=by
 obtain⟨G,hG,hck,hpre⟩:=yV p hw hI;by_cases h6:C6 G
 ·obtain⟨H,t,ha,hv,hs,hE,hen⟩:=hpre h6
  have hy:=fun v n' L'=>yU p H G hG hck h6 t ha hv hs hE hen E T hT hreg hbit _ rfl _ rfl v n' L'
  have hdg:=gx (num:=1+(T.length:Int)) (m:=E.length) H t.size t 0 ⟨true,0,[]⟩ E [] (Nat.le_refl _) ha hv ⟨Nat.le_refl _,hbit,fun d hd=>by cases hd⟩;have hdl:=dH (p:=p) (num:=1+(T.length:Int)) false t 0 ⟨true,0,[]⟩ E [];generalize aW p (1+(T.length:Int)) false t 0 ⟨true,0,[]⟩ E []=D at hy hdg hdl;have hln:=un p (T++[⟨p,[]⟩]) D.2.1 D.1 [];have hrs:=sG (p:=p) (num:=1+(T.length:Int)) (m:=E.length) (T:=T++[⟨p,[]⟩]) D.2.1 D.1 [] hdg.2.2 hdg.2.1 (fun r hr=>by cases hr);generalize fJ p (T++[⟨p,[]⟩]) D.2.1 D.1 []=R at hy hrs hln;obtain⟨r1,r2,r3,r4⟩:=hrs;by_cases hd:D.2.2=0
  ·by_cases hr:R.2.2=0
   ·have h1:=hy _ _ _ (fun h=>absurd hd h) (fun _ h=>absurd hr h) fun _ _=>⟨rfl,rfl,rfl⟩
    rw[show 1+(T.length:Int)+1=1+(((T++[(⟨p,R.2.1⟩:Tb)]).length:Nat):Int) by simp;omega] at h1;refine⟨R.1,T++[⟨p,R.2.1⟩],_,_,⟨h1,.inr ⟨rfl,rfl,R.2.1,rfl,H,hdg.1.trans r1,by rw[r3];exact r4,?_,r2⟩⟩,?_⟩
    ·exact RegE.gro H ⟨T.length,rfl,by simp,by simp⟩ (hdg.1.trans r1) (RegE.tab _ (by simp) (fun j hj=>by rw[bG hj]) hreg)
    ·intro _ rs hrs
     have:=List.append_cancel_left hrs;cases this;have hp:=H.hp;simp only[List.length_nil] at hln hdl;omega
   ·exact⟨E,T,0,R.2.2,⟨hy _ _ _ (fun h=>absurd hd h) (fun _ _=>⟨rfl,rfl,rfl⟩) fun _ h=>absurd h hr,.inl ⟨hr,rfl,rfl,rfl⟩⟩,fun h=>absurd h hr⟩
  ·exact⟨E,T,0,D.2.2,⟨hy _ _ _ (fun _=>⟨rfl,rfl,rfl⟩) (fun h=>absurd h hd) fun h=>absurd h hd,.inl ⟨hd,rfl,rfl,rfl⟩⟩,fun h=>absurd h hd⟩
 ·exact⟨E,T,0,1,⟨yX p G hG hck h6 E T,.inl ⟨by decide,rfl,rfl,rfl⟩⟩,fun h=>absurd h (by decide)⟩
theorem yW (p:List Nd) (hw:wfN p) (hI:wfI p) (E:List Ent) (T:List Tb) (hT:T.length<=10) (hreg:RegE T E) (hbit:BitO E):∃ E' T' z e,LoadR p E T E' T' z e:=by
 obtain⟨E',T',z,e,h,_⟩:=oL p hw hI E T hT hreg hbit;exact⟨E',T',z,e,h⟩
def E0:List Ent:=[dG [92] 10 (-1) 0 0,dG [92,95,83,66] 10 0 0 0,dG [92,95,71,80,69] 10 0 0 0]
theorem uz:FC Tryz.prog 10 [] 0 [] (.s (.ptr (some (0,0)))) 4 [(0,some (bn 1 2 3 3 1)),(1,some (oB E0)),(2,some (pB E0)),(3,some (tB []))]:=by
 refine FC.walk (by kernel_rfl) Tryz.func10 rfl rfl ?_
 repeat'(first|exact y0|refine y1 ?_|refine y2 ?_ ?_|(refine y8 ?_ ?_<;>intro h<;>try exact y6)|refine RegX.mkM (tx:=76) kdI true 14 cf bq rfl ?_|refine RegX.mkM (tx:=77) kdS false 1 iC (fun _=>rfl) rfl ?_|refine RegX.mkM (tx:=78) kdI true 2 eF bA rfl ?_|refine y3 ?_|refine y7 ?_ ?_|refine y4 ?_|(refine y9 ?_ ?_<;>intro h)|exact y5|fail)
 refine Ex.inv (σ:=Nat) (fun j=>[(12,nI j)]) (fun j=>[(0,some (oB (E0.take j))),(1,some (pB (E0.take j))),(2,some (tB [])),(3,some (bn 0 1 2 3 1)),(4,some {cells:=[.str [92],.str [92,95,83,66],.str [92,95,71,80,69]],ty:=9})]) (fun j=>j<=3) (fun j=>3-j) 0 rfl (fun _=>rfl) (Nat.zero_le _) ⟨VLe.refl _,trivial⟩ ⟨rfl,rfl,rfl,rfl,rfl,trivial⟩ ?_;intro j hj
 match j,hj with
 |0,_=>
  repeat'(first|exact y0|refine y1 ?_|refine y2 ?_ ?_|(refine y8 ?_ ?_<;>intro h<;>try exact y6)|refine RegX.oNew (E:=E0.take 0) (dG [92] 10 (-1) 0 0) rfl rfl rfl (VLe.refl _) rfl rfl rfl rfl ?_|refine RegX.pNew (E:=E0.take 0) (dG [92] 10 (-1) 0 0) rfl rfl rfl rfl rfl rfl rfl rfl rfl ?_|refine y3 ?_|refine y7 ?_ ?_|refine y4 ?_|(refine y9 ?_ ?_<;>intro h)|exact y5|fail)
  all_goals try first
   |exact aa (by omega) (by omega)
  exact LoopR.same 1 (by decide) (by decide) rfl ⟨VLe.refl _,trivial⟩ ⟨rfl,rfl,rfl,rfl,rfl,trivial⟩ rfl rfl (by decide)
 |1,_=>
  repeat'(first|exact y0|refine y1 ?_|refine y2 ?_ ?_|(refine y8 ?_ ?_<;>intro h<;>try exact y6)|refine RegX.oNew (E:=E0.take 1) (dG [92,95,83,66] 10 0 0 0) rfl rfl rfl (VLe.refl _) rfl rfl rfl rfl ?_|refine RegX.pNew (E:=E0.take 1) (dG [92,95,83,66] 10 0 0 0) rfl rfl rfl rfl rfl rfl rfl rfl rfl ?_|refine y3 ?_|refine y7 ?_ ?_|refine y4 ?_|(refine y9 ?_ ?_<;>intro h)|exact y5|fail)
  all_goals try first
   |exact aa (by omega) (by omega)
  exact LoopR.same 2 (by decide) (by decide) rfl ⟨VLe.refl _,trivial⟩ ⟨rfl,rfl,rfl,rfl,rfl,trivial⟩ rfl rfl (by decide)
 |2,_=>
  repeat'(first|exact y0|refine y1 ?_|refine y2 ?_ ?_|(refine y8 ?_ ?_<;>intro h<;>try exact y6)|refine RegX.oNew (E:=E0.take 2) (dG [92,95,71,80,69] 10 0 0 0) rfl rfl rfl (VLe.refl _) rfl rfl rfl rfl ?_|refine RegX.pNew (E:=E0.take 2) (dG [92,95,71,80,69] 10 0 0 0) rfl rfl rfl rfl rfl rfl rfl rfl rfl ?_|refine y3 ?_|refine y7 ?_ ?_|refine y4 ?_|(refine y9 ?_ ?_<;>intro h)|exact y5|fail)
  all_goals try first
   |exact aa (by omega) (by omega)
  exact LoopR.same 3 (by decide) (by decide) rfl ⟨VLe.refl _,trivial⟩ ⟨rfl,rfl,rfl,rfl,rfl,trivial⟩ rfl rfl (by decide)
 |3,_=>
  repeat'(first|exact y0|refine y1 ?_|refine y2 ?_ ?_|(refine y8 ?_ ?_<;>intro h<;>try exact y6)|refine y3 ?_|refine y7 ?_ ?_|refine y4 ?_|(refine y9 ?_ ?_<;>intro h)|exact y5|fail)
  exact⟨.inl rfl,_,[3,0,1,2],VLe.refl _,EndOK.by rfl ⟨rfl,rfl,rfl,rfl,trivial⟩ rfl rfl rfl rfl⟩
 |j+4,h=>omega
end Go.Proofs.YtegjgpldfgjoiaaGreatDoor
namespace Go.Proofs.YtegjgpldfgjoiaaGreatDoor
namespace Ab
open Go
inductive T (α:Type) where
 |nil
 |node (v:Option α) (a b c d:T α)
def T.get {α:Type}:T α->Nat->Option α
 | .nil,_=>none
 | .node v a b c d,i=>
   match i with
   |0=>v
   |j+1=>
    match Nat.beq (Nat.land j 1) 0 with
    |true=>(match Nat.beq (Nat.land j 2) 0 with|true=>a.get (Nat.div j 4)|false=>c.get (Nat.div j 4))
    |false=>(match Nat.beq (Nat.land j 2) 0 with|true=>b.get (Nat.div j 4)|false=>d.get (Nat.div j 4))
def T.one {α β:Type} (x:Option α):Nat->Nat->(T α->β)->β
 |0,_,k=>k .nil
 |f+1,i,k=>
  match i with
  |0=>k (.node x .nil .nil .nil .nil)
  |j+1=>
   match Nat.beq (Nat.land j 1) 0 with
   |true=>(match Nat.beq (Nat.land j 2) 0 with|true=>T.one x f (Nat.div j 4) fun t=>k (.node none t .nil .nil .nil)|false=>T.one x f (Nat.div j 4) fun t=>k (.node none .nil .nil t .nil))
   |false=>(match Nat.beq (Nat.land j 2) 0 with|true=>T.one x f (Nat.div j 4) fun t=>k (.node none .nil t .nil .nil)|false=>T.one x f (Nat.div j 4) fun t=>k (.node none .nil .nil .nil t))
def T.putK {α β:Type} (x:Option α):T α->Nat->(T α->β)->β
 | .nil,i,k=>T.one x (Nat.succ i) i k
 | .node v a b c d,i,k=>
   match i with
   |0=>k (.node x a b c d)
   |j+1=>
    match Nat.beq (Nat.land j 1) 0 with
    |true=>(match Nat.beq (Nat.land j 2) 0 with|true=>T.putK x a (Nat.div j 4) fun t=>k (.node v t b c d)|false=>T.putK x c (Nat.div j 4) fun t=>k (.node v a b t d))
    |false=>(match Nat.beq (Nat.land j 2) 0 with|true=>T.putK x b (Nat.div j 4) fun t=>k (.node v a t c d)|false=>T.putK x d (Nat.div j 4) fun t=>k (.node v a b c t))
def T.put {α:Type} (t:T α) (i:Nat) (x:Option α):T α:=T.putK x t i id
theorem lI (i:Nat):Nat.beq (Nat.land i 1) 0=decide (i%2=0):=by
 have:Nat.land i 1=i%2:=Nat.and_one_is_mod i;rw[this]
 rcases Nat.mod_two_eq_zero_or_one i with h|h<;>rw[h]<;>rfl
theorem Dw (i j:Nat):Nat.beq i j=decide (i=j):=by
 by_cases h:i=j
 ·subst h;simp
 ·simp[h,fD h]
theorem lH (i:Nat):Nat.beq (Nat.land i 2) 0=decide (i/2%2=0):=by
 have h:Nat.land i 2=2*(i/2%2):=by
  show i&&&2=_
  have e:i&&&2=2*((i/2)&&&1):=by
   apply Nat.eq_of_testBit_eq;intro k;rw[Nat.testBit_and]
   cases k with
   |zero=>simp
   |succ k=>
    rw[show (2:Nat)*((i/2)&&&1)=2^1*((i/2)&&&1) by simp,Nat.testBit_two_pow_mul];simp only[Nat.testBit_and,Nat.testBit_div_two,ge_iff_le,Nat.le_add_left,decide_true,Bool.true_and,Nat.add_sub_cancel];congr 1;rw[show (2:Nat)=2^1 by rfl,Nat.testBit_two_pow]
    cases k with
    |zero=>simp
    |succ k=>simp[Nat.testBit_succ]
  rw[e,Nat.and_one_is_mod]
 rw[h,Dw];congr 1;apply propext;omega
theorem T.get_nil {α:Type} (j:Nat):(T.nil:T α).get j=none:=by cases j<;>rfl
def T.sel {α:Type} (j:Nat) (a b c d:α):α:=if j%2=0 then (if j/2%2=0 then a else c) else (if j/2%2=0 then b else d)
theorem T.get_node {α:Type} (v:Option α) (a b c d:T α) (j:Nat):(T.node v a b c d).get j=if j=0 then v else (T.sel (j-1) a b c d).get ((j-1)/4):=by
 cases j with
 |zero=>rfl
 |succ j=>
  show (match Nat.beq (Nat.land j 1) 0 with
   |true=>(match Nat.beq (Nat.land j 2) 0 with|true=>a.get (Nat.div j 4)|false=>c.get (Nat.div j 4))
   |false=>(match Nat.beq (Nat.land j 2) 0 with|true=>b.get (Nat.div j 4)|false=>d.get (Nat.div j 4)))=_
  rw[lI,lH];have e:Nat.div j 4=j/4:=rfl;rw[e];simp only[Nat.add_one_ne_zero,if_false,Nat.add_sub_cancel,T.sel]
  by_cases h1:j%2=0<;>by_cases h2:j/2%2=0<;>simp[h1,h2]
theorem T.one_eq {α β:Type} (x:Option α):∀ (f i:Nat) (k:T α->β),T.one x f i k=k (T.one x f i id)
 |0,_,k=>rfl
 |f+1,0,k=>rfl
 |f+1,j+1,k=>by
  simp only[T.one]
  split<;>split
  ·exact (T.one_eq x f _ (fun t=>k (T.node none t .nil .nil .nil))).trans (congrArg k (T.one_eq x f _ (fun t=>id (T.node none t .nil .nil .nil))).symm)
  ·exact (T.one_eq x f _ (fun t=>k (T.node none .nil .nil t .nil))).trans (congrArg k (T.one_eq x f _ (fun t=>id (T.node none .nil .nil t .nil))).symm)
  ·exact (T.one_eq x f _ (fun t=>k (T.node none .nil t .nil .nil))).trans (congrArg k (T.one_eq x f _ (fun t=>id (T.node none .nil t .nil .nil))).symm)
  ·exact (T.one_eq x f _ (fun t=>k (T.node none .nil .nil .nil t))).trans (congrArg k (T.one_eq x f _ (fun t=>id (T.node none .nil .nil .nil t))).symm)
theorem T.putK_eq {α β:Type} (x:Option α):∀ (t:T α) (i:Nat) (k:T α->β),T.putK x t i k=k (t.put i x)
 | .nil,i,k=>T.one_eq x _ i k
 | .node v a b c d,0,k=>rfl
 | .node v a b c d,j+1,k=>by
   simp only[T.put,T.putK]
   split<;>split
   ·exact (T.putK_eq x a _ (fun t=>k (T.node v t b c d))).trans (congrArg k (T.putK_eq x a _ (fun t=>id (T.node v t b c d))).symm)
   ·exact (T.putK_eq x c _ (fun t=>k (T.node v a b t d))).trans (congrArg k (T.putK_eq x c _ (fun t=>id (T.node v a b t d))).symm)
   ·exact (T.putK_eq x b _ (fun t=>k (T.node v a t c d))).trans (congrArg k (T.putK_eq x b _ (fun t=>id (T.node v a t c d))).symm)
   ·exact (T.putK_eq x d _ (fun t=>k (T.node v a b c t))).trans (congrArg k (T.putK_eq x d _ (fun t=>id (T.node v a b c t))).symm)
theorem T.get_one {α:Type} (x:Option α):∀ (f i j:Nat),i<f->(T.one x f i id).get j=if i=j then x else none
 |0,i,_,h=>by omega
 |f+1,0,j,h=>by
  show (T.node x .nil .nil .nil .nil).get j=_;rw[T.get_node]
  cases j with
  |zero=>rfl
  |succ j=>simp only[Nat.add_one_ne_zero,if_false,T.sel];(repeat' split)<;>simp_all[T.get_nil]
 |f+1,i+1,j,h=>by
  simp only[T.one];rw[lI,lH];have e:Nat.div i 4=i/4:=rfl;rw[e];have ih:=T.get_one x f (i/4) ((j-1)/4) (by omega)
  by_cases h1:i%2=0<;>by_cases h2:i/2%2=0<;>simp only[h1,h2,decide_true,decide_false]<;>rw[T.one_eq]<;>simp only[id,T.get_node]<;>cases j with
  |zero=>simp
  |succ j=>
   simp only[Nat.add_one_ne_zero,if_false,Nat.add_sub_cancel,T.sel] at ih |-
   by_cases g1:j%2=0<;>by_cases g2:j/2%2=0<;>simp only[g1,g2,if_true,if_false,T.get_nil]<;>first
    |(rw[if_neg (by omega)];done)
    |(rw[show (T.one x f (i/4) fun a=>a)=T.one x f (i/4) id from rfl,ih]
      have:i/4=j/4↔i+1=j+1:=by omega
      simp only[this])
    |(rw[ih]
      have:i/4=j/4↔i+1=j+1:=by omega
      simp only[this])
theorem T.get_put {α:Type}:∀ (t:T α) (i:Nat) (x:Option α) (j:Nat),(t.put i x).get j=if i=j then x else t.get j
 | .nil,i,x,j=>by
   show (T.one x (Nat.succ i) i id).get j=_;rw[T.get_one x _ _ _ (Nat.lt_succ_self _),T.get_nil]
 | .node v a b c d,0,x,j=>by
   show (T.node x a b c d).get j=_;rw[T.get_node,T.get_node]
   cases j with
   |zero=>rfl
   |succ j=>simp
 | .node v a b c d,i+1,x,j=>by
   simp only[T.put,T.putK];rw[lI,lH];have e:Nat.div i 4=i/4:=rfl;rw[e];have iha:=T.get_put a (i/4) x ((j-1)/4);have ihb:=T.get_put b (i/4) x ((j-1)/4);have ihc:=T.get_put c (i/4) x ((j-1)/4);have ihd:=T.get_put d (i/4) x ((j-1)/4)
   by_cases h1:i%2=0<;>by_cases h2:i/2%2=0<;>simp only[h1,h2,decide_true,decide_false]<;>rw[T.putK_eq]<;>simp only[id,T.get_node]<;>cases j with
   |zero=>simp
   |succ j=>
    simp only[Nat.add_one_ne_zero,if_false,Nat.add_sub_cancel,T.sel] at iha ihb ihc ihd |-
    by_cases g1:j%2=0<;>by_cases g2:j/2%2=0<;>simp only[g1,g2,if_true,if_false]<;>first
     |(rw[if_neg (by omega)];done)
     |(first|rw[iha]|rw[ihb]|rw[ihc]|rw[ihd]
       have:i/4=j/4↔i+1=j+1:=by omega
       simp only[this])
def T.puts {α:Type}:T α->List (Nat×Option α)->T α
 |t,[]=>t
 |t,(i,x)::r=>T.puts (t.put i x) r
def fL {β:Type} (n:Nat) (k:Nat->β):β:=match n with|0=>k 0|m+1=>k (Nat.succ m)
theorem de {β:Type} (n:Nat) (k:Nat->β):fL n k=k n:=by cases n<;>rfl
def Fu {β:Type} (z:Int) (k:Int->β):β:=match z with| .ofNat n=>fL n fun n=>k (.ofNat n)| .negSucc n=>fL n fun n=>k (.negSucc n)
theorem C4 {β:Type} (z:Int) (k:Int->β):Fu z k=k z:=by cases z<;>simp only[Fu,de]
def An {β:Type} (a:Option (Nat×Nat)) (k:Option (Nat×Nat)->β):β:=match a with|none=>k none|some (i,o)=>fL i fun i=>fL o fun o=>k (some (i,o))
theorem uY {β:Type} (a:Option (Nat×Nat)) (k:Option (Nat×Nat)->β):An a k=k a:=by rcases a with _|⟨i,o⟩<;>simp only[An,de]
def C5 {β:Type} (a:Option Nat) (k:Option Nat->β):β:=match a with|none=>k none|some i=>fL i fun i=>k (some i)
theorem uX {β:Type} (a:Option Nat) (k:Option Nat->β):C5 a k=k a:=by cases a<;>simp only[C5,de]
def lT {β:Type} (t:Tm) (k:Tm->β):β:=
 match t with
 | .v i=>fL i fun i=>k (.v i)
 | .c z=>fL z fun z=>k (.c z)
 | .bin o kd a b=>lT a fun a=>lT b fun b=>match o with| .add=>k (.bin .add kd a b)|o=>k (.bin o kd a b)
theorem lS {β:Type}:∀ (t:Tm) (k:Tm->β),lT t k=k t
 | .v i,k=>by simp only[lT,de]
 | .c z,k=>by simp only[lT,de]
 | .bin o kd a b,k=>by
   simp only[lT,lS a,lS b]
   cases o<;>rfl
def Aj {β:Type} (K:Kn) (k:Kn->β):β:=match K with|⟨lo,hi,m⟩=>fL lo fun lo=>fL hi fun hi=>k ⟨lo,hi,m⟩
theorem Ai {β:Type} (K:Kn) (k:Kn->β):Aj K k=k K:=by cases K;simp only[Aj,de]
def Fs {β:Type} (x:S) (k:S->β):β:=
 match x with
 | .int kd z=>Fu z fun z=>k (.int kd z)
 | .bool b=>match b with|true=>k (.bool true)|false=>k (.bool false)
 | .str l=>frc l [] fun l=>k (.str l)
 | .ptr a=>An a fun a=>k (.ptr a)
 | .slc a n c=>An a fun a=>fL n fun n=>C5 c fun c=>k (.slc a n c)
 | .sla i g n=>fL i fun i=>fL g fun g=>fL n fun n=>k (.sla i g n)
 | .itr i m=>fL i fun i=>fL m fun m=>k (.itr i m)
 | .clo f ps=>frc ps [] fun ps=>k (.clo f ps)
 | .opq kd t K=>lT t fun t=>Aj K fun K=>k (.opq kd t K)
 |x=>k x
theorem C3 {β:Type} (x:S) (k:S->β):Fs x k=k x:=by
 cases x<;>simp only[Fs,C4,aQ,uY,de,uX,lS,Ai]
 split<;>rfl
def wE {β:Type} (v:V) (k:V->β):β:=
 match v with
 | .s x=>Fs x fun x=>k (.s x)
 | .agg l=>frc l [] fun l=>k (.agg l)
 | .tup l=>frc l [] fun l=>k (.tup l)
 |v=>k v
theorem o0 {β:Type} (v:V) (k:V->β):wE v k=k v:=by cases v<;>simp only[wE,C3,aQ]
def evT (env:T V):Operand->V
 | .tmp t=>match env.get t with|some v=>v|none=> .undef
 | .const v=>cc v
 | .func f=> .s (.fn f)
 | .global g=> .s (.gp g 0)
end Ab
end Go.Proofs.YtegjgpldfgjoiaaGreatDoor
