import Derived.Test.YtegjgpldfgjoiaaGreatDoorCnB25
import Derived.Test.YtegjgpldfgjoiaaGreatDoorCnB38
import Derived.Test.YtegjgpldfgjoiaaGreatDoorCnB32
set_option linter.unusedSimpArgs false
set_option linter.unusedVariables false
namespace Go.Proofs.YtegjgpldfgjoiaaGreatDoor
open Go Ab
set_option maxRecDepth 100000
set_option maxHeartbeats 4000000
abbrev sC (p:List Nd) (E:List Ent) (T:List Tb):Hp:=[(0,some (bn 1 2 3 (E.length:Nat) (1+(T.length:Int)))),(1,some (oB E)),(2,some (pB E)),(3,some (tB T)),(4,some (spB p))]
abbrev B8 (p:List Nd) (E:List Ent) (T:List Tb):Hp:=[(0,some (bn 5 6 7 (E.length:Nat) (1+(T.length:Int)))),(1,none),(2,none),(3,none),(4,some (spB p)),(5,some (oB E)),(6,some (pB E)),(7,some (tB T))]
section
variable {P:Program} {b:Nat} {env:List V} {n:Nat} {L:Hp} {R:Post}
theorem Ex.drow {c:Code} (t i:Nat) (G:Dgs) (ht:env.getD t .undef=.s (.row i (i+1) G.length)) (hl:lk L i=dgB i G) {env':List V} (he:env.set t (pn G)=env') {L':Hp} (hL:put L i none=L') (k:Ex P b c env' n L' R):Ex P b c env n L R:=by
 cases G with
 |nil=>
  subst hL;refine Ex.set t _ (by rw[ht];exact VLe.s SLe.row0) he (Ex.subF (fun j bl hj=>?_) k);rw[ax] at hj;split at hj
  ·cases hj
  ·exact⟨bl,hj,rfl,fun _ _ _ h=>h⟩
 |cons x fs=>
  have hlen:t<env.length:=by
   rcases Nat.lt_or_ge t env.length with h|h
   ·exact h
   ·rw[List.getD_eq_getElem?_getD,List.getElem?_eq_none h] at ht;cases ht
  refine Ex.set t (.s (.sla i (i+1) (x::fs).length)) (by rw[ht];exact VLe.s (SLe.rowsla (Nat.succ_pos _))) rfl ?_;refine Ex.fz t (fun k=>dgC ((x::fs).getD k (0,0))) 2 (bl:=dgS i (x::fs)) (i:=i) (N:=(x::fs).length) ?_ hl rfl rfl (fun _ _=>rfl) (fun k j x hk hx=>po hk hx) ?_ hL k
  ·rw[List.getD_eq_getElem?_getD,List.getElem?_set,if_pos rfl,if_pos hlen];rfl
  ·rw[<-he,List.set_set];rfl
end
theorem wl (p:List Nd) (G:Dgs) (hG:G.length<=1000000000) (hck:FC Tryz.prog 65 [.s (.slc (some (0,0)) p.length (some (p.length+3)))] 1 [(0,some (spB p))] (.s (.row 1 2 G.length)) 3 [(0,some (spB p)),(1,dgB 1 G)]) (h6: ¬C6 G) (E:List Ent) (T:List Tb):
 FC Tryz.prog 25 [.s (.ptr (some (0,0))),.s (.slc (some (4,0)) p.length (some (p.length+3)))] 5 (sC p E T) (.tup [.s (.int .i64 0),.s (.int .i64 1)]) 8 (B8 p E T):=by
 refine FC.walk (by kernel_rfl) Tryz.func25 rfl rfl ?_
 repeat'(first|exact y0|refine y1 ?_|refine y2 ?_ ?_|(refine y8 ?_ ?_<;>intro h<;>try exact y6)|(refine wC ?_;first|(refine wF 65 ?_;refine CallG.mo [4] hck rfl rfl rfl rfl rfl ⟨VLe.refl _,trivial⟩ ⟨⟨rfl,_,rfl,rfl,fun h=>h⟩,trivial⟩ rfl rfl (wr:=[(4,some (spB p)),(5,dgB 5 G)]) (by show [_,_]=_;rw[ah];rfl) ?_))|refine y3 ?_|refine y7 ?_ ?_|refine y4 ?_|(refine y9 ?_ ?_<;>intro h)|exact y5|fail)
 refine Ex.drow 14 5 G rfl rfl rfl rfl ?_;refine Ex.canon [0,1,2,3,4] 126 [(0,.s (.ptr (some (0,0)))),(1,.s (.slc (some (4,0)) p.length (some (p.length+3)))),(14,pn G),(15,nI G.length),(16,nI 0)] (sC p E T) rfl rfl ⟨VLe.refl _,VLe.refl _,VLe.refl _,VLe.refl _,VLe.refl _,trivial⟩ ⟨rfl,rfl,rfl,rfl,rfl,trivial⟩ rfl ?_;refine Ex.inv (σ:=Nat) (fun i=>[(16,nI (i:Nat))]) (fun _=>sC p E T) (fun i=>i<=G.length/\∀ k,k<i->(G.getD k (0,0)).2=6) (fun i=>G.length-i) 0 rfl (fun _=>rfl) ⟨Nat.zero_le _,fun k hk=>absurd hk (Nat.not_lt_zero _)⟩ ⟨VLe.refl _,trivial⟩ ⟨rfl,rfl,rfl,rfl,rfl,trivial⟩ ?_;rintro i ⟨hi,hb⟩;by_cases hlt:i<G.length
 ·by_cases hc:(G.getD i (0,0)).2=6
  ·
   have hb':∀ k,k<i+1->(G.getD k (0,0)).2=6:=by
    intro k hk
    rcases Nat.lt_or_ge k i with h|h
    ·exact hb k h
    ·rw[show k=i by omega];exact hc
   repeat'(first|exact y0|refine y1 ?_|refine y2 ?_ ?_|(refine y8 ?_ ?_<;>intro h<;>try exact y6)|refine y3 ?_|refine y7 ?_ ?_|refine y4 ?_|(refine y9 ?_ ?_<;>intro h)|exact y5|fail)
   refine LoopR.same (i+1) ⟨hlt,hb'⟩ (by omega) rfl ⟨VLe.of_eq (congrArg nI (by push_cast;omega)),trivial⟩ ⟨rfl,rfl,rfl,rfl,rfl,trivial⟩ rfl rfl (by decide)
  ·
   repeat'(first|exact y0|refine y1 ?_|refine y2 ?_ ?_|(refine y8 ?_ ?_<;>intro h<;>try exact y6)|refine y3 ?_|refine y7 ?_ ?_|refine y4 ?_|(refine y9 ?_ ?_<;>intro h)|exact y5|fail)
   exact⟨.inl rfl,_,[1,2,3],VLe.refl _,EndOK.move rfl ⟨rfl,rfl,rfl,rfl,rfl,trivial⟩ rfl rfl rfl rfl rfl⟩
 ·exfalso
  refine h6 fun d hd=>?_
  obtain⟨k,hk,rfl⟩:=List.mem_iff_getElem.1 hd;have:=hb k (by omega)
  rwa [List.getD_eq_getElem?_getD,List.getElem?_eq_getElem hk] at this
theorem CH (p:List Nd) (H:PrO p) (G:Dgs) (hG:G.length<=1000000000) (hck:FC Tryz.prog 65 [.s (.slc (some (0,0)) p.length (some (p.length+3)))] 1 [(0,some (spB p))] (.s (.row 1 2 G.length)) 3 [(0,some (spB p)),(1,dgB 1 G)]) (h6:C6 G) (t:Fo) (ha:t.At p 0) (hv:t.V (List.replicate t.cnt (false,68))) (hs:t.size=p.length) (hE:EOK p (aH t)) (hen:FC Tryz.prog 68 [ae p] 0 [] (.s (.frz (fun k=>[.int .i64 (((aH t).getD k 0:Nat):Int)]) 1 (aH t).length)) 0 [])
 (E:List Ent) (T:List Tb) (hT:T.length<=10) (hreg:RegE T E) (hbit:BitO E) (D:DR) (hD:aW p (1+(T.length:Int)) false t 0 ⟨true,0,[]⟩ E []=D) (R:List Ent×List Int×Int) (hR:fJ p (T++[⟨p,[]⟩]) D.2.1 D.1 []=R)
 (v:V) (n':Nat) (L':Hp) (hA:D.2.2≠0->v=.tup [.s (.int .i64 0),.s (.int .i64 D.2.2)]/\n'=8/\L'=B8 p E T) (hB:D.2.2=0->R.2.2≠0->v=.tup [.s (.int .i64 0),.s (.int .i64 R.2.2)]/\n'=8/\L'=B8 p E T)
 (hC:D.2.2=0->R.2.2=0->v=.tup [.s (.int .i64 (1+(T.length:Int))),.s (.int .i64 0)]/\n'=8/\L'=[(0,some (bn 5 6 7 (R.1.length:Nat) (1+(T.length:Int)+1))),(1,none),(2,none),(3,none),(4,some (spB p)),(5,some (oB R.1)),(6,some (pB R.1)),(7,some (tB (T++[⟨p,R.2.1⟩])))]):
 FC Tryz.prog 25 [.s (.ptr (some (0,0))),.s (.slc (some (4,0)) p.length (some (p.length+3)))] 5 (sC p E T) v n' L':=by
 have hp:=H.hp;have hcl:=ni E T (E.length:Nat) (1+(T.length:Int));have hcn:=A7 p (by omega);have hdg:=gx (num:=1+(T.length:Int)) (m:=E.length) H t.size t 0 ⟨true,0,[]⟩ E [] (Nat.le_refl _) ha hv ⟨Nat.le_refl _,hbit,fun d hd=>by cases hd⟩;have hdl:=dH (p:=p) (num:=1+(T.length:Int)) false t 0 ⟨true,0,[]⟩ E [];have hdc:=tC (1+(T.length:Int)+1) (1+(T.length:Int)) p (aH t) hp hE t.size (l6 (1+(T.length:Int)+1) (1+(T.length:Int)) p (aH t) hp H.hw H.hI H.hO H.hN hE t.size) t 0 ⟨true,0,[]⟩ E [] (Nat.le_refl _) ha hv rfl (by simp only[List.length_nil];omega);rw[hD] at hdg hdl hdc;obtain⟨E1,fs,e⟩:=D;simp only at hdg hdl hdc hR hA hB hC;have hel:=hE.len
 have hTn:∃ j:Nat,1+(T.length:Int)=1+(j:Int)/\j<(T++[(⟨p,[]⟩:Tb)]).length/\((T++[(⟨p,[]⟩:Tb)]).getD j tZ).p=p:=⟨T.length,rfl,by simp,by simp⟩
 have hr1:RegE (T++[⟨p,[]⟩]) E1:=RegE.gro H hTn hdg.1 (RegE.tab _ (by simp) (fun j hj=>by rw[bG hj]) hreg);refine FC.walk (by kernel_rfl) Tryz.func25 rfl rfl ?_
 repeat'(first|exact y0|refine y1 ?_|refine y2 ?_ ?_|(refine y8 ?_ ?_<;>intro h<;>try exact y6)|(refine wC ?_;first|(refine wF 65 ?_;refine CallG.mo [4] hck rfl rfl rfl rfl rfl ⟨VLe.refl _,trivial⟩ ⟨⟨rfl,_,rfl,rfl,fun h=>h⟩,trivial⟩ rfl rfl (wr:=[(4,some (spB p)),(5,dgB 5 G)]) (by show [_,_]=_;rw[ah];rfl) ?_))|refine y3 ?_|refine y7 ?_ ?_|refine y4 ?_|(refine y9 ?_ ?_<;>intro h)|exact y5|fail)
 refine Ex.drow 14 5 G rfl rfl rfl rfl ?_;refine Ex.canon [0,1,2,3,4] 126 [(0,.s (.ptr (some (0,0)))),(1,.s (.slc (some (4,0)) p.length (some (p.length+3)))),(14,pn G),(15,nI G.length),(16,nI 0)] (sC p E T) rfl rfl ⟨VLe.refl _,VLe.refl _,VLe.refl _,VLe.refl _,VLe.refl _,trivial⟩ ⟨rfl,rfl,rfl,rfl,rfl,trivial⟩ rfl ?_;refine Ex.inv (σ:=Nat) (fun i=>[(16,nI (i:Nat))]) (fun _=>sC p E T) (fun i=>i<=G.length) (fun i=>G.length-i) 0 rfl (fun _=>rfl) (Nat.zero_le _) ⟨VLe.refl _,trivial⟩ ⟨rfl,rfl,rfl,rfl,rfl,trivial⟩ ?_;intro j hj;by_cases hlt:j<G.length
 ·have hc:(G.getD j (0,0)).2=6:=h6 _ (Ep hlt)
  repeat'(first|exact y0|refine y1 ?_|refine y2 ?_ ?_|(refine y8 ?_ ?_<;>intro h<;>try exact y6)|refine y3 ?_|refine y7 ?_ ?_|refine y4 ?_|(refine y9 ?_ ?_<;>intro h)|exact y5|fail)
  refine LoopR.same (j+1) hlt (by omega) rfl ⟨VLe.of_eq (congrArg nI (by push_cast;omega)),trivial⟩ ⟨rfl,rfl,rfl,rfl,rfl,trivial⟩ rfl rfl (by decide)
 by_cases he:e=0
 ·subst he
  repeat'(first|refine Ex.ld13 8 9 (by decide) rfl rfl rfl ?_|exact y0|refine y1 ?_|refine y2 ?_ ?_|(refine y8 ?_ ?_<;>intro h<;>try(exact y6))|(refine wC ?_;first|(refine wF 66 ?_;refine CallG.mv [0,1,2,3] 0 (bl1:={bn 1 2 3 (E.length:Nat) (1+(T.length:Int)) with ro:=true}) hcl rfl rfl ⟨VLe.refl _,trivial⟩ rfl rfl (fun φ w b h=>BlAt.weaken h true (fun _=>rfl)) rfl ⟨⟨rfl,_,rfl,rfl,fun h=>h⟩,⟨rfl,_,rfl,rfl,fun h=>h⟩,⟨rfl,_,rfl,rfl,fun h=>h⟩,⟨rfl,_,rfl,rfl,fun h=>h⟩,trivial⟩ rfl rfl rfl rfl ?_)|(refine wF 67 ?_;refine CallG.mo [4] hcn rfl rfl rfl rfl rfl ⟨VLe.refl _,trivial⟩ ⟨⟨rfl,_,rfl,rfl,fun h=>h⟩,trivial⟩ rfl rfl (wr:=[(4,some (spB p))]) (by rfl) ?_)|refine wF 68 (pu hen ?_)|(refine wF 69 ?_;refine CallG.mo [8,5,6,7,9,10] hdc rfl dJ rfl rfl rfl ⟨VLe.refl _,VLe.refl _,VLe.of_eq (congrArg nI (by rw[hs];omega)),VLe.agg ⟨SLe.refl _,SLe.refl _,SLe.nil,trivial⟩,trivial⟩ ⟨⟨rfl,_,rfl,rfl,fun h=>h⟩,⟨rfl,_,rfl,rfl,fun h=>h⟩,⟨rfl,_,rfl,rfl,fun h=>h⟩,FitP.op rfl rfl trivial⟩ rfl rfl (wr:=[(8,some (ldM 5 6 7 (E1.length:Nat) (1+(T.length:Int)+1) (1+(T.length:Int)) p (aH t) (.row 11 12 fs.length) (.slc none 0 (some 0)))),(5,some (oB E1)),(6,some (pB E1)),(9,none),(11,fdB 11 fs)]) (by show [_,_,_,_,_]=_;rw[ah];rfl) ?_))|refine RegX.tLen rfl rfl rfl rfl ?_|refine RegX.tNew ⟨p,[]⟩ rfl rfl ?_ ?_ rfl rfl rfl rfl ?_|refine y3 ?_|refine y7 ?_ ?_|refine y4 ?_|(refine y9 ?_ ?_<;>intro h)|exact y5|fail)
  all_goals try first
   |omega
   |exact VLe.agg ⟨SLe.refl _,SLe.nil,trivial⟩
  have hB:=hB rfl;have hC:=hC rfl;have hml:=hdg.1.len
  have hfl:fs.length<=2048:=by simp only[List.length_nil] at hdl;omega
  refine Ex.frow 85 11 fs rfl rfl rfl rfl ?_;refine Ex.cel 8 8 (s':=.unk) rfl rfl (fun φ x h=>Sr.cell h rfl) rfl ?_;refine Ex.cel 8 9 (s':=.row 13 14 0) rfl rfl SLe.nilrow rfl (Ex.upN (n':=15) (by decide) ?_);refine Ex.canon [0,1,2,3,4,5,6,7,8,13,14] 126 [(0,.s (.ptr (some (0,0)))),(8,.s (.ptr (some (8,0)))),(85,.s (.frz (fun k=>fdC (fs.getD k fdZ)) 4 fs.length)),(86,nI fs.length),(87,nI 0)] [(0,some (bn 1 2 3 (E.length:Nat) (1+(T.length:Int)))),(1,some (oB E)),(2,some (pB E)),(3,some (tB T)),(4,some (spB p)),(5,some (oB E1)),(6,some (pB E1)),(7,some (tB (T++[⟨p,[]⟩]))),(8,some (ldM 5 6 7 (E1.length:Nat) (1+(T.length:Int)+1) (1+(T.length:Int)) p (aH t) .unk (.row 9 10 0)))] rfl rfl ⟨VLe.refl _,VLe.refl _,VLe.refl _,VLe.refl _,VLe.refl _,trivial⟩ ⟨rfl,rfl,rfl,rfl,rfl,rfl,rfl,rfl,rfl,trivial⟩ rfl ?_
  refine Ex.inv (σ:=Nat×List Ent×List Int) (fun q=>[(87,nI q.1)]) (fun q=>[(0,some (bn 1 2 3 (E.length:Nat) (1+(T.length:Int)))),(1,some (oB E)),(2,some (pB E)),(3,some (tB T)),(4,some (spB p)),(5,some (oB q.2.1)),(6,some (pB q.2.1)),(7,some (tB (T++[⟨p,[]⟩]))),(8,some (ldM 5 6 7 (q.2.1.length:Nat) (1+(T.length:Int)+1) (1+(T.length:Int)) p (aH t) .unk (.row 9 10 q.2.2.length))),(9,unB 9 q.2.2)])
   (fun q=>q.1<=fs.length/\q.2.1.length=E1.length/\(BitO q.2.1/\RegE (T++[⟨p,[]⟩]) q.2.1)/\RefG E1.length q.2.2/\q.2.2.length<=2*q.1/\fJ p (T++[⟨p,[]⟩]) (fs.drop q.1) q.2.1 q.2.2=R) (fun q=>fs.length-q.1) (0,E1,[]) rfl (fun _=>rfl) ?_ ?_ ?_ ?_
  ·exact⟨Nat.zero_le _,rfl,⟨hdg.2.1,hr1⟩,fun r hr=>(by cases hr),Nat.le_refl _,hR⟩
  ·exact⟨VLe.refl _,trivial⟩
  ·exact⟨rfl,rfl,rfl,rfl,rfl,rfl,rfl,rfl,rfl,trivial⟩
  rintro⟨j,E2,rs⟩ ⟨j1,j2,⟨j3,j4⟩,j5,j6,j7⟩;simp only at j1 j2 j3 j4 j5 j6 j7 |-;by_cases hj:j<fs.length
  ·have hdr:fs.drop j=fs.getD j fdZ::fs.drop (j+1):=by rw[List.drop_eq_getElem_cons hj,List.getD_eq_getElem?_getD,List.getElem?_eq_getElem hj];rfl
   have hmem:fs.getD j fdZ∈fs:=by rw[List.getD_eq_getElem?_getD,List.getElem?_eq_getElem hj];exact List.getElem_mem hj
   have hd:=(hdg.2.2 _ hmem).mono (N':=E2.length) (by rw[j2];exact Nat.le_refl _);have hres:=mT (1+(T.length:Int)+1) (1+(T.length:Int)) p (aH t) H .unk rfl (T++[⟨p,[]⟩]) E2 rs (by omega) E.length _ hd j4 j3 _ rfl;have hro:=sH (num:=1+(T.length:Int)) (T:=T++[⟨p,[]⟩]) (i:=(fs.getD j fdZ).node.toNat) (rs:=rs) hd j3 (by rw[j2];exact j5);rw[hdr,fJ] at j7;generalize eK p (T++[⟨p,[]⟩]) (fs.getD j fdZ) (fs.getD j fdZ).node.toNat E2 rs=Q at hres hro j7;obtain⟨E3,rs3,e⟩:=Q;simp only at hres hro j7;obtain⟨⟨o1,o2⟩,o3,o4,o5⟩:=hro;by_cases he:e=0
   ·subst he
    rw[if_pos rfl] at j7
    repeat'(first|exact y0|refine y1 ?_|refine y2 ?_ ?_|(refine y8 ?_ ?_<;>intro h<;>try(exact y6))|(refine wC ?_;first|(refine wF 70 ?_;refine CallG.mo [8,5,6,7,9,10] hres rfl oA rfl rfl rfl ⟨VLe.refl _,VLe.refl _,trivial⟩ ⟨⟨rfl,_,rfl,rfl,fun h=>h⟩,⟨rfl,_,rfl,rfl,fun h=>h⟩,⟨rfl,_,rfl,rfl,fun h=>h⟩,⟨rfl,_,rfl,rfl,fun h=>h⟩,FitP.op rfl rfl trivial⟩ rfl rfl (wr:=[(8,some (ldM 5 6 7 (E3.length:Nat) (1+(T.length:Int)+1) (1+(T.length:Int)) p (aH t) .unk (.row 12 13 rs3.length))),(5,some (oB E3)),(6,some (pB E3)),(7,some (tB (T++[⟨p,[]⟩]))),(9,none),(12,unB 12 rs3)]) (by show [_,_,_,_,_,_]=_;rw[ah];rfl) ?_))|refine y3 ?_|refine y7 ?_ ?_|refine y4 ?_|(refine y9 ?_ ?_<;>intro h)|exact y5|fail)
    all_goals try first
     |omega
     |exact aa (by omega) (by omega)
    refine LoopR.move (j+1,E3,rs3) ⟨by simp only;omega,by simp only;omega,⟨o2,RegE.gro H hTn o1 j4⟩,by rw[j2] at o4;exact o4,by simp only;omega,j7⟩ (by simp only;omega) [0,1,2,3,4,5,6,7,8,12,13] rfl ?_ ?_ ?_
    ·repeat' (first|exact VLe.refl _|exact VLe.any _|exact True.intro|exact VLe.of_eq (congrArg nI (by push_cast;omega))|refine⟨?_,?_⟩)
    ·exact⟨rfl,rfl,rfl,rfl,rfl,rfl,rfl,rfl,rfl,MemP.op rfl trivial⟩
    ·unfold unB
     generalize List.map _ rs3=cg
     cases cg<;>rfl
   ·rw[if_neg he] at j7
    obtain⟨rfl,rfl,rfl⟩:=hB (by rw[<-j7];exact he);subst j7
    repeat'(first|exact y0|refine y1 ?_|refine y2 ?_ ?_|(refine y8 ?_ ?_<;>intro h<;>try(exact y6))|(refine wC ?_;first|(refine wF 70 ?_;refine CallG.mo [8,5,6,7,9,10] hres rfl oA rfl rfl rfl ⟨VLe.refl _,VLe.refl _,trivial⟩ ⟨⟨rfl,_,rfl,rfl,fun h=>h⟩,⟨rfl,_,rfl,rfl,fun h=>h⟩,⟨rfl,_,rfl,rfl,fun h=>h⟩,⟨rfl,_,rfl,rfl,fun h=>h⟩,FitP.op rfl rfl trivial⟩ rfl rfl (wr:=[(8,some (ldM 5 6 7 (E3.length:Nat) (1+(T.length:Int)+1) (1+(T.length:Int)) p (aH t) .unk (.row 12 13 rs3.length))),(5,some (oB E3)),(6,some (pB E3)),(7,some (tB (T++[⟨p,[]⟩]))),(9,none),(12,unB 12 rs3)]) (by show [_,_,_,_,_,_]=_;rw[ah];rfl) ?_))|refine y3 ?_|refine y7 ?_ ?_|refine y4 ?_|(refine y9 ?_ ?_<;>intro h)|exact y5|fail)
    all_goals try first
     |omega
     |exact aa (by omega) (by omega)
    exact⟨.inl rfl,_,[1,2,3],VLe.refl _,EndOK.move rfl ⟨rfl,rfl,rfl,rfl,rfl,trivial⟩ rfl rfl rfl rfl rfl⟩
  ·have hdr:fs.drop j=[]:=by simp;omega
   rw[hdr,fJ] at j7;subst j7;obtain⟨rfl,rfl,rfl⟩:=hC rfl;simp only
   cases rs with
   |nil=>
    repeat'(first|refine Ex.cel23 8 9 (s':=Aa []) rfl rfl SLe.row0 rfl ?_|exact y0|refine y1 ?_|refine y2 ?_ ?_|(refine y8 ?_ ?_<;>intro h<;>try(exact y6))|refine RegX.tUpd T.length ⟨p,[]⟩ rfl rfl ?_ ?_ ?_ rfl rfl rfl rfl ?_|refine y3 ?_|refine y7 ?_ ?_|refine y4 ?_|(refine y9 ?_ ?_<;>intro h)|exact y5|fail)
    all_goals try first
     |omega
     |exact VLe.refl _
    have hset:(T++[(⟨p,[]⟩:Tb)]).set T.length ⟨p,[]⟩=T++[⟨p,[]⟩]:=by simp
    refine⟨.inl rfl,_,[5,6,7],VLe.refl _,EndOK.by rfl ⟨rfl,rfl,rfl,rfl,?_,trivial⟩ rfl rfl rfl rfl⟩;exact (show some (tB ((T++[(⟨p,[]⟩:Tb)]).set T.length ⟨p,[]⟩))=some (tB (T++[⟨p,[]⟩])) by rw[hset])
   |cons r rs=>
    repeat'(first|refine Ex.fzC23 8 9 (fun k=>[.int .i64 ((r::rs).getD k 0)]) 1 rfl (by decide) rfl rfl rfl rfl rfl (fun _ _=>rfl) (kV _) rfl ?_|exact y0|refine y1 ?_|refine y2 ?_ ?_|(refine y8 ?_ ?_<;>intro h<;>try(exact y6))|refine RegX.tUpd T.length ⟨p,r::rs⟩ rfl rfl ?_ ?_ ?_ rfl rfl rfl rfl ?_|refine y3 ?_|refine y7 ?_ ?_|refine y4 ?_|(refine y9 ?_ ?_<;>intro h)|exact y5|fail)
    all_goals try first
     |omega
     |exact VLe.refl _
    have hset:(T++[(⟨p,[]⟩:Tb)]).set T.length ⟨p,(r::rs)⟩=T++[⟨p,(r::rs)⟩]:=by simp
    refine⟨.inl rfl,_,[5,6,7],VLe.refl _,EndOK.by rfl ⟨rfl,rfl,rfl,rfl,?_,trivial⟩ rfl rfl rfl rfl⟩;exact (show some (tB ((T++[(⟨p,[]⟩:Tb)]).set T.length ⟨p,(r::rs)⟩))=some (tB (T++[⟨p,(r::rs)⟩])) by rw[hset])
 ·obtain⟨rfl,rfl,rfl⟩:=hA he
  repeat'(first|refine Ex.ld13 8 9 (by decide) rfl rfl rfl ?_|exact y0|refine y1 ?_|refine y2 ?_ ?_|(refine y8 ?_ ?_<;>intro h<;>try(exact y6))|(refine wC ?_;first|(refine wF 66 ?_;refine CallG.mv [0,1,2,3] 0 (bl1:={bn 1 2 3 (E.length:Nat) (1+(T.length:Int)) with ro:=true}) hcl rfl rfl ⟨VLe.refl _,trivial⟩ rfl rfl (fun φ w b h=>BlAt.weaken h true (fun _=>rfl)) rfl ⟨⟨rfl,_,rfl,rfl,fun h=>h⟩,⟨rfl,_,rfl,rfl,fun h=>h⟩,⟨rfl,_,rfl,rfl,fun h=>h⟩,⟨rfl,_,rfl,rfl,fun h=>h⟩,trivial⟩ rfl rfl rfl rfl ?_)|(refine wF 67 ?_;refine CallG.mo [4] hcn rfl rfl rfl rfl rfl ⟨VLe.refl _,trivial⟩ ⟨⟨rfl,_,rfl,rfl,fun h=>h⟩,trivial⟩ rfl rfl (wr:=[(4,some (spB p))]) (by rfl) ?_)|refine wF 68 (pu hen ?_)|(refine wF 69 ?_;refine CallG.mo [8,5,6,7,9,10] hdc rfl dJ rfl rfl rfl ⟨VLe.refl _,VLe.refl _,VLe.of_eq (congrArg nI (by rw[hs];omega)),VLe.agg ⟨SLe.refl _,SLe.refl _,SLe.nil,trivial⟩,trivial⟩ ⟨⟨rfl,_,rfl,rfl,fun h=>h⟩,⟨rfl,_,rfl,rfl,fun h=>h⟩,⟨rfl,_,rfl,rfl,fun h=>h⟩,FitP.op rfl rfl trivial⟩ rfl rfl (wr:=[(8,some (ldM 5 6 7 (E1.length:Nat) (1+(T.length:Int)+1) (1+(T.length:Int)) p (aH t) (.row 11 12 fs.length) (.slc none 0 (some 0)))),(5,some (oB E1)),(6,some (pB E1)),(9,none),(11,fdB 11 fs)]) (by show [_,_,_,_,_]=_;rw[ah];rfl) ?_))|refine RegX.tLen rfl rfl rfl rfl ?_|refine RegX.tNew ⟨p,[]⟩ rfl rfl ?_ ?_ rfl rfl rfl rfl ?_|refine y3 ?_|refine y7 ?_ ?_|refine y4 ?_|(refine y9 ?_ ?_<;>intro h)|exact y5|fail)
  all_goals try first
   |omega
   |exact VLe.agg ⟨SLe.refl _,SLe.nil,trivial⟩
  exact⟨.inl rfl,_,[1,2,3],VLe.refl _,EndOK.move rfl ⟨rfl,rfl,rfl,rfl,rfl,trivial⟩ rfl rfl rfl rfl rfl⟩
set_option maxRecDepth 100000
set_option maxHeartbeats 4000000
theorem xR:SC Tryz.prog 30 [.s (.slc none 0 (some 0)),.agg mkC] 0 [] (.s (.slc (some (0,0)) 0 (some 3))) 2 [(0,some {spB [] with gh:=some (1,4)})]:=by
 refine (FC.walk (by kernel_rfl) Tryz.func30 rfl rfl ?_).2
 have hsz:(Tryz.prog.types[49]).size=4:=by kernel_rfl
 have hby:(Tryz.prog.types[49]).bytes=40:=by kernel_rfl
 repeat'(first|exact y0|refine y1 ?_|refine y2 ?_ ?_|(refine y8 ?_ ?_<;>intro h<;>try exact y6)|refine y3 ?_|refine y7 ?_ ?_|refine y4 ?_|(refine y9 ?_ ?_<;>intro h)|exact y5|fail)
 refine RegX.opA [.app 0 []] rfl rfl ⟨rfl,rfl,rfl,rfl,rfl,rfl,(fun h=>nomatch h),by rw[Nat.zero_mul];decide,by decide⟩ ?_
 repeat'(first|refine Ex.set 5 (.s (.row 5 6 3)) (VLe.s (SLe.slarow (by decide))) rfl (Ex.flat 5 rfl rfl rfl rfl ?_)|exact y0|refine y1 ?_|refine y2 ?_ ?_|(refine y8 ?_ ?_<;>intro h<;>try exact y6)|refine RegX.app [.app 3 (mkC++mkC++mkC)] rfl rfl ?_ rfl rfl rfl ?_|refine RegX.sl3 0 rfl (by decide) rfl rfl rfl rfl (by decide) rfl rfl rfl ?_|refine y3 ?_|refine y7 ?_ ?_|refine y4 ?_|(refine y9 ?_ ?_<;>intro h)|exact y5|fail)
 all_goals try first
  |(rw[hsz];decide)
  |(rw[hby];decide)
 exact⟨.inl rfl,_,[5,6],VLe.refl _,EndOK.by rfl ⟨rfl,trivial⟩ rfl rfl rfl rfl⟩
theorem xQ:SC Tryz.prog 30 [.s (.emq),.agg mkC] 0 [] (.s (.slc (some (0,0)) 0 (some 3))) 2 [(0,some {spB [] with gh:=some (1,4)})]:=by
 refine (FC.walk (by kernel_rfl) Tryz.func30 rfl rfl ?_).2
 have hsz:(Tryz.prog.types[49]).size=4:=by kernel_rfl
 have hby:(Tryz.prog.types[49]).bytes=40:=by kernel_rfl
 repeat'(first|exact y0|refine y1 ?_|refine y2 ?_ ?_|(refine y8 ?_ ?_<;>intro h<;>try exact y6)|refine y3 ?_|refine y7 ?_ ?_|refine y4 ?_|(refine y9 ?_ ?_<;>intro h)|exact y5|fail)
 refine RegX.opA [.app 0 []] rfl rfl ⟨rfl,rfl,rfl,rfl,rfl,rfl,(fun h=>nomatch h),by rw[Nat.zero_mul];decide,by decide⟩ ?_
 repeat'(first|refine Ex.set 5 (.s (.row 5 6 3)) (VLe.s (SLe.slarow (by decide))) rfl (Ex.flat 5 rfl rfl rfl rfl ?_)|exact y0|refine y1 ?_|refine y2 ?_ ?_|(refine y8 ?_ ?_<;>intro h<;>try exact y6)|refine RegX.app [.app 3 (mkC++mkC++mkC)] rfl rfl ?_ rfl rfl rfl ?_|refine RegX.sl3 0 rfl (by decide) rfl rfl rfl rfl (by decide) rfl rfl rfl ?_|refine y3 ?_|refine y7 ?_ ?_|refine y4 ?_|(refine y9 ?_ ?_<;>intro h)|exact y5|fail)
 all_goals try first
  |(rw[hsz];decide)
  |(rw[hby];decide)
 exact⟨.inl rfl,_,[5,6],VLe.refl _,EndOK.by rfl ⟨rfl,trivial⟩ rfl rfl rfl rfl⟩
theorem B5 (p:List Nd) (hb:p.length<=2000000000):FC Tryz.prog 30 [ae p,.agg mkC] 0 [] (.s (.slc (some (0,0)) p.length (some (p.length+3)))) 2 [(0,some (spB p))]:=by
 rcases Nat.eq_zero_or_pos p.length with h0|h0
 ·obtain rfl:=List.eq_nil_of_length_eq_zero h0
  have h:FC Tryz.prog 30 [ae [],.agg mkC] 0 [] (.s (.slc (some (0,0)) 0 (some 3))) 2 [(0,some {spB [] with gh:=some (1,4)})]:=⟨by kernel_rfl,SC.split2 (pre:=[]) (post:=[.agg mkC]) (fun φ x h=>ik h) xR xQ⟩
  refine h.post fun i bl' hi=>?_
  rw[ak] at hi;split at hi
  ·rename_i e;subst e;cases hi
   exact⟨_,rfl,rfl,fun φ w b h=>h.gh0⟩
  ·cases hi
 ·exact B4 p h0 hb
def zrN (R:List Nd):Nat->List Nd
 |0=>R
 |k+1=>(zrN R k).set k dN
theorem nH (R:List Nd):∀ k,(zrN R k).length=R.length
 |0=>rfl
 |k+1=>by rw[zrN,List.length_set,nH R k]
theorem sW:∀ (C:List Nd) (t:List S) (j:Nat) (x:Nd),j<C.length->(C.set j x).flatMap ndC++t=aU (C.flatMap ndC++t) (j*4) (ndC x)
 |[],t,j,x,h=>by simp at h
 |y::C,t,0,x,_=>rfl
 |y::C,t,j+1,x,h=>by
  have ih:=sW C t j x (by simpa using h);rw[List.set_cons_succ,List.flatMap_cons,List.flatMap_cons,List.append_assoc,ih,show (j+1)*4=j*4+4 by omega];rfl
abbrev zN (C:List Nd) (t:List S):Bl:={cells:=C.flatMap ndC++t,ty:=49,more:=true,sym:=true,flat:=true}
section
variable {P:Program} {ops:Array Oper} {d:Bool} {acc:List Row} {os:List Oper} {env:List V} {n:Nat} {L:Hp} {R:Post}
theorem RegX.ndS {t:TypeId} {a v:Operand} {t':TypeId} {pos:String} {af:Array Edge} {gd:Option (Nat×Bool)} {C:List Nd} {tl:List S} {c off:Nat} (j:Nat) (x:Nd)
 (ha:ev env a=.s (.ptr (some (c,off)))) (ho:off=j*4) (hv:ev env v=.agg (ndC x)) (hl:lk L c=some (zN C tl)) (hj:j<C.length) (ht:aF P t=some 4)
 (hw:aI ops env ⟨none,.store t a v,t',pos,af,gd⟩=some true)
 (k:RegX P ops d (av d ⟨none,.store t a v,t',pos,af,gd⟩ [c] [(c,some (zN (C.set j x) tl))] acc) os env n (puts L [(c,some (zN (C.set j x) tl))]) R):RegX P ops d acc (⟨none,.store t a v,t',pos,af,gd⟩::os) env n L R:=by
 have hlen:=bf C;have hp:=sW C tl j x hj
 have h:dL P n L t (ev env a) (ev env v) [.cells ((C.set j x).flatMap ndC++tl)]=some ⟨⟨[c],.undef,[(c,some (zN (C.set j x) tl))],n⟩,[],off+4<=(C.flatMap ndC++tl).length/\(C.set j x).flatMap ndC++tl=aU (C.flatMap ndC++tl) off (ndC x)⟩:=by
  unfold dL;rw[ha,hv];simp only[hl,ht];rfl
 have hk:=gR (P:=P) (env:=env) (n:=n) (L:=L) (t:=t) (x:=a) (y:=v) (o:=⟨none,.store t a v,t',pos,af,gd⟩) rfl h ⟨by rw[List.length_append,hlen];omega,by rw[hp,ho]⟩;exact RegX.op hw hk.1 hk.2 k
end
theorem Cw (R:List Nd) (t:List S) (c:Option Nat) (hb:R.length<=2000000000):FC Tryz.prog 32 [.s (.slc (some (0,0)) R.length c)] 1 [(0,some (zN R t))] .any 1 [(0,some (zN (zrN R R.length) t))]:=by
 refine FC.walk (by kernel_rfl) Tryz.func32 rfl rfl ?_
 repeat'(first|exact y0|refine y1 ?_|refine y2 ?_ ?_|(refine y8 ?_ ?_<;>intro h<;>try exact y6)|refine y3 ?_|refine y7 ?_ ?_|refine y4 ?_|(refine y9 ?_ ?_<;>intro h)|exact y5|fail)
 refine Ex.inv (σ:=Nat) (fun j=>[(3,nI j)]) (fun j=>[(0,some (zN (zrN R j) t)),(1,some {cells:=ndC dN,ty:=49})]) (fun j=>j<=R.length) (fun j=>R.length-j) 0 rfl (fun _=>rfl) (Nat.zero_le _) ⟨VLe.refl _,trivial⟩ ⟨rfl,rfl,trivial⟩ ?_;intro j hj
 rcases Nat.lt_or_ge j R.length with hlt|hge
 ·
  repeat'(first|exact y0|refine y1 ?_|refine y2 ?_ ?_|(refine y8 ?_ ?_<;>intro h<;>try exact y6)|refine RegX.ndS j dN rfl (by rw[aV,aX,Nat.zero_add];rfl) rfl rfl (by rw[nH];exact hlt) rfl rfl ?_|refine y3 ?_|refine y7 ?_ ?_|refine y4 ?_|(refine y9 ?_ ?_<;>intro h)|exact y5|fail)
  all_goals try first
   |omega
   |exact aa (by omega) (by omega)
  refine LoopR.same (j+1) hlt (by omega) rfl ⟨VLe.of_eq (congrArg nI (by push_cast;omega)),trivial⟩ ⟨rfl,rfl,trivial⟩ rfl rfl (by decide)
 ·obtain rfl:j=R.length:=by omega
  repeat'(first|exact y0|refine y1 ?_|refine y2 ?_ ?_|(refine y8 ?_ ?_<;>intro h<;>try exact y6)|refine y3 ?_|refine y7 ?_ ?_|refine y4 ?_|(refine y9 ?_ ?_<;>intro h)|exact y5|fail)
  exact⟨.inr rfl,.tup [],[],VLe.any _,EndOK.by rfl ⟨rfl,trivial⟩ rfl rfl rfl rfl⟩
set_option maxRecDepth 100000
set_option maxHeartbeats 4000000
abbrev ndG (c:Nat) (p:List Nd):Bl:={cells:=p.flatMap ndC,ty:=49,more:=true,sym:=true,flat:=true,gh:=some (c+1,4)}
theorem A0 (p:List Nd) (h0:0<p.length) (hp:p.length<=2000000000):FC Tryz.prog 67 [ae p] 0 [] (.s (.row 0 1 p.length)) 2 [(0,some (ndG 0 p))]:=by
 have hnp:(p.flatMap ndC).all bD=true:=fm {cells:=[],ty:=0,flat:=true} p
 obtain⟨s,t,rfl⟩:∃ s t,p=s::t:=by
  cases p with
  |nil=>exact absurd h0 (Nat.lt_irrefl 0)
  |cons s t=>exact⟨s,t,rfl⟩
 refine FC.walk (by kernel_rfl) Tryz.func67 rfl rfl ?_
 repeat'(first|exact y0|refine y1 ?_|refine y2 ?_ ?_|(refine y8 ?_ ?_<;>intro h<;>try exact y6)|refine RegX.atCmp (CmpG.nn false (Nat.succ_pos _) rfl (.inl ⟨rfl,rfl⟩) rfl rfl ?_)|refine y3 ?_|refine y7 ?_ ?_|refine y4 ?_|(refine y9 ?_ ?_<;>intro h)|exact y5|fail)
 refine RegX.opA [.app (s::t).length ((s::t).flatMap ndC)] rfl rfl ⟨rfl,trivial,rfl,by rw[Nat.zero_add],?_,?_,(fun h=>nomatch h),?_,by omega⟩ ?_
 ·rw[an,Nat.zero_mul];rfl
 ·rw[an];exact fm _ _
 ·rw[show (Tryz.prog.types[49]).bytes=40 by kernel_rfl];omega
 repeat'(first|exact y0|refine y1 ?_|refine y2 ?_ ?_|(refine y8 ?_ ?_<;>intro h<;>try exact y6)|refine Ex.set 2 (.s (.row 1 2 (s::t).length)) (VLe.s (SLe.slarow (Nat.succ_pos _))) rfl (Ex.flat 1 rfl rfl hnp rfl ?_)|refine y3 ?_|refine y7 ?_ ?_|refine y4 ?_|(refine y9 ?_ ?_<;>intro h)|exact y5|fail)
 exact⟨.inl rfl,_,[1,2],VLe.refl _,EndOK.by rfl ⟨rfl,trivial⟩ rfl rfl rfl rfl⟩
theorem EQ (E:List Ent) (p:List Nd) (rs:List Int) (h0:0<p.length) (hp:p.length<=2000000000):FC Tryz.prog 33 [.s (.ptr (some (0,0))),nI 1] 4 (spL E [⟨p,rs⟩]) (.s (.row 4 5 p.length)) 6 [(0,some (bn 1 2 3 (E.length:Nat) 2)),(1,some (oB E)),(2,some (pB E)),(3,some (tB [⟨p,rs⟩])),(4,some (ndG 4 p))]:=by
 have hc:=A0 p h0 hp;refine FC.walk (by kernel_rfl) Tryz.func33 rfl rfl ?_
 repeat'(first|exact y0|refine y1 ?_|refine y2 ?_ ?_|(refine y8 ?_ ?_<;>intro h<;>try exact y6)|(refine wC ?_;first|(refine wF 67 ?_;refine CallG.me [] hc rfl rfl ⟨VLe.refl _,trivial⟩ trivial rfl rfl rfl ?_))|refine RegX.tLk (T:=[⟨p,rs⟩]) 0 rfl rfl rfl (Nat.zero_lt_one) rfl rfl rfl rfl rfl ?_|refine y3 ?_|refine y7 ?_ ?_|refine y4 ?_|(refine y9 ?_ ?_<;>intro h)|exact y5|fail)
 exact⟨.inl rfl,_,[4,5],VLe.refl _,EndOK.by rfl ⟨rfl,rfl,rfl,rfl,rfl,trivial⟩ rfl rfl rfl rfl⟩
theorem ER (E:List Ent) (rs:List Int):FC Tryz.prog 33 [.s (.ptr (some (0,0))),nI 1] 4 (spL E [⟨[],rs⟩]) (ae []) 4 (spL E [⟨[],rs⟩]):=by
 have hc:=l9 [] (by decide);refine FC.walk (by kernel_rfl) Tryz.func33 rfl rfl ?_
 repeat'(first|exact y0|refine y1 ?_|refine y2 ?_ ?_|(refine y8 ?_ ?_<;>intro h<;>try exact y6)|(refine wC ?_;first|refine wF 67 (pu hc ?_))|refine RegX.tLk (T:=[⟨[],rs⟩]) 0 rfl rfl rfl (Nat.zero_lt_one) rfl rfl rfl rfl rfl ?_|refine y3 ?_|refine y7 ?_ ?_|refine y4 ?_|(refine y9 ?_ ?_<;>intro h)|exact y5|fail)
 exact⟨.inl rfl,_,[],VLe.refl _,EndOK.by rfl ⟨rfl,rfl,rfl,rfl,trivial⟩ rfl rfl rfl rfl⟩
def zrI (R:List Int):Nat->List Int
 |0=>R
 |k+1=>(zrI R k).set k 0
theorem t_ (R:List Int):∀ k,(zrI R k).length=R.length
 |0=>rfl
 |k+1=>by rw[zrI,List.length_set,t_ R k]
abbrev unS (c:Nat) (l:List Int):Bl:={cells:=l.map fun z=>S.int .i64 z,ty:=3,more:=true,sym:=true,flat:=true,gh:=some (c+1,1)}
theorem uc {c:Nat} {l:List Int} (h:0<l.length):unB c l=some (unS c l):=eO (fun e=>by rw[List.map_eq_nil_iff.1 e] at h;exact absurd h (Nat.lt_irrefl 0))
theorem Ad:∀ (C:List Int) (j:Nat) (x:Int),j<C.length->((C.set j x).map fun z=>S.int .i64 z)=aU (C.map fun z=>S.int .i64 z) j [S.int .i64 x]
 |[],j,x,h=>by simp at h
 |y::C,0,x,_=>rfl
 |y::C,j+1,x,h=>by
  have ih:=Ad C j x (by simpa using h);rw[List.set_cons_succ,List.map_cons,ih];rfl
theorem yq (R:List Int) (h0:0<R.length) (hb:R.length<=2000000000):FC Tryz.prog 35 [.s (.row 0 1 R.length)] 2 [(0,some (unS 0 R))] .any 2 [(0,some (unS 0 (zrI R R.length)))]:=by
 have hsz:(Tryz.prog.types[3]).size=1:=by kernel_rfl
 refine FC.walk (by kernel_rfl) Tryz.func35 rfl rfl ?_;refine Ex.set 0 (.s (.sla 0 1 R.length)) (VLe.s (SLe.rowsla h0)) rfl ?_
 repeat'(first|exact y0|refine y1 ?_|refine y2 ?_ ?_|(refine y8 ?_ ?_<;>intro h<;>try exact y6)|refine y3 ?_|refine y7 ?_ ?_|refine y4 ?_|(refine y9 ?_ ?_<;>intro h)|exact y5|fail)
 refine Ex.inv (σ:=Nat) (fun j=>[(3,nI j)]) (fun j=>[(0,some (unS 0 (zrI R j)))]) (fun j=>j<=R.length) (fun j=>R.length-j) 0 rfl (fun _=>rfl) (Nat.zero_le _) ⟨VLe.refl _,trivial⟩ ⟨rfl,trivial⟩ ?_;intro j hj
 rcases Nat.lt_or_ge j R.length with hlt|hge
 ·
  have hzl:=t_ R j
  repeat'(first|exact y0|refine y1 ?_|refine y2 ?_ ?_|(refine y8 ?_ ?_<;>intro h<;>try exact y6)|refine RegX.sto [.cells ((zrI R (j+1)).map fun z=>S.int .i64 z)] rfl rfl ⟨?_,?_⟩ rfl ?_|refine y3 ?_|refine y7 ?_ ?_|refine y4 ?_|(refine y9 ?_ ?_<;>intro h)|exact y5|fail)
  all_goals try first
   |omega
   |exact aa (by omega) (by omega)
   |(rw[hsz,aV,aX,Nat.zero_add,Nat.mul_one];show j+1<=((zrI R j).map _).length;rw[List.length_map];omega)
   |(rw[hsz,aV,aX,Nat.zero_add,Nat.mul_one];exact Ad (zrI R j) j 0 (by omega))
  refine LoopR.same (j+1) hlt (by omega) rfl ⟨VLe.of_eq (congrArg nI (by push_cast;omega)),trivial⟩ ⟨rfl,trivial⟩ rfl rfl (by decide)
 ·obtain rfl:j=R.length:=by omega
  repeat'(first|exact y0|refine y1 ?_|refine y2 ?_ ?_|(refine y8 ?_ ?_<;>intro h<;>try exact y6)|refine y3 ?_|refine y7 ?_ ?_|refine y4 ?_|(refine y9 ?_ ?_<;>intro h)|exact y5|fail)
  exact⟨.inr rfl,.tup [],[],VLe.any _,EndOK.by rfl ⟨rfl,trivial⟩ rfl rfl rfl rfl⟩
theorem Cx:FC Tryz.prog 32 [ae []] 0 [] .any 0 []:=by
 refine FC.walk (by kernel_rfl) Tryz.func32 rfl rfl ?_
 repeat'(first|exact y0|refine y1 ?_|refine y2 ?_ ?_|(refine y8 ?_ ?_<;>intro h<;>try exact y6)|refine y3 ?_|refine y7 ?_ ?_|refine y4 ?_|(refine y9 ?_ ?_<;>intro h)|exact y5|fail)
 refine Ex.inv (σ:=Unit) (fun j=>[(3,nI 0)]) (fun j=>[(0,some {cells:=ndC dN,ty:=49})]) (fun j=>True) (fun j=>0) () rfl (fun _=>rfl) trivial ⟨VLe.refl _,trivial⟩ ⟨rfl,trivial⟩ ?_;intro j hj
 repeat'(first|exact y0|refine y1 ?_|refine y2 ?_ ?_|(refine y8 ?_ ?_<;>intro h<;>try exact y6)|refine y3 ?_|refine y7 ?_ ?_|refine y4 ?_|(refine y9 ?_ ?_<;>intro h)|exact y5|fail)
 exact⟨.inr rfl,.tup [],[],VLe.any _,EndOK.by rfl trivial rfl rfl rfl rfl⟩
theorem CF (C:List Nd) (j:Nat) (x:Nd) (h:j<C.length):(C.set j x).flatMap ndC=aU (C.flatMap ndC) (j*4) (ndC x):=by
 have:=sW C [] j x h
 rwa [List.append_nil,List.append_nil] at this
section
variable {P:Program} {ops:Array Oper} {d:Bool} {acc:List Row} {os:List Oper} {env:List V} {n:Nat} {L:Hp} {R:Post}
theorem RegX.ndR {t:TypeId} {a v:Operand} {t':TypeId} {pos:String} {af:Array Edge} {gd:Option (Nat×Bool)} {C:List Nd} {c g off:Nat} (j:Nat) (x:Nd)
 (ha:ev env a=.s (.ptr (some (c,off)))) (ho:off=j*4) (hv:ev env v=.agg (ndC x)) (hl:lk L c=some (ndG g C)) (hj:j<C.length) (ht:aF P t=some 4)
 (hw:aI ops env ⟨none,.store t a v,t',pos,af,gd⟩=some true)
 (k:RegX P ops d (av d ⟨none,.store t a v,t',pos,af,gd⟩ [c] [(c,some (ndG g (C.set j x)))] acc) os env n (puts L [(c,some (ndG g (C.set j x)))]) R):RegX P ops d acc (⟨none,.store t a v,t',pos,af,gd⟩::os) env n L R:=by
 have hlen:=bf C;have hp:=CF C j x hj
 have h:dL P n L t (ev env a) (ev env v) [.cells ((C.set j x).flatMap ndC)]=some ⟨⟨[c],.undef,[(c,some (ndG g (C.set j x)))],n⟩,[],off+4<=(C.flatMap ndC).length/\(C.set j x).flatMap ndC=aU (C.flatMap ndC) off (ndC x)⟩:=by
  unfold dL;rw[ha,hv];simp only[hl,ht];rfl
 have hk:=gR (P:=P) (env:=env) (n:=n) (L:=L) (t:=t) (x:=a) (y:=v) (o:=⟨none,.store t a v,t',pos,af,gd⟩) rfl h ⟨by rw[hlen];omega,by rw[hp,ho]⟩;exact RegX.op hw hk.1 hk.2 k
end
theorem Cv (R:List Nd) (h0:0<R.length) (hb:R.length<=2000000000):FC Tryz.prog 32 [.s (.row 0 1 R.length)] 2 [(0,some (ndG 0 R))] .any 2 [(0,some (ndG 0 (zrN R R.length)))]:=by
 refine FC.walk (by kernel_rfl) Tryz.func32 rfl rfl ?_;refine Ex.set 0 (.s (.sla 0 1 R.length)) (VLe.s (SLe.rowsla h0)) rfl ?_
 repeat'(first|exact y0|refine y1 ?_|refine y2 ?_ ?_|(refine y8 ?_ ?_<;>intro h<;>try exact y6)|refine y3 ?_|refine y7 ?_ ?_|refine y4 ?_|(refine y9 ?_ ?_<;>intro h)|exact y5|fail)
 refine Ex.inv (σ:=Nat) (fun j=>[(3,nI j)]) (fun j=>[(0,some (ndG 0 (zrN R j))),(2,some {cells:=ndC dN,ty:=49})]) (fun j=>j<=R.length) (fun j=>R.length-j) 0 rfl (fun _=>rfl) (Nat.zero_le _) ⟨VLe.refl _,trivial⟩ ⟨rfl,rfl,trivial⟩ ?_;intro j hj
 rcases Nat.lt_or_ge j R.length with hlt|hge
 ·
  repeat'(first|exact y0|refine y1 ?_|refine y2 ?_ ?_|(refine y8 ?_ ?_<;>intro h<;>try exact y6)|refine RegX.ndR j dN rfl (by rw[aV,aX,Nat.zero_add];rfl) rfl rfl (by rw[nH];exact hlt) rfl rfl ?_|refine y3 ?_|refine y7 ?_ ?_|refine y4 ?_|(refine y9 ?_ ?_<;>intro h)|exact y5|fail)
  all_goals try first
   |omega
   |exact aa (by omega) (by omega)
  refine LoopR.same (j+1) hlt (by omega) rfl ⟨VLe.of_eq (congrArg nI (by push_cast;omega)),trivial⟩ ⟨rfl,rfl,trivial⟩ rfl rfl (by decide)
 ·obtain rfl:j=R.length:=by omega
  repeat'(first|exact y0|refine y1 ?_|refine y2 ?_ ?_|(refine y8 ?_ ?_<;>intro h<;>try exact y6)|refine y3 ?_|refine y7 ?_ ?_|refine y4 ?_|(refine y9 ?_ ?_<;>intro h)|exact y5|fail)
  exact⟨.inr rfl,.tup [],[],VLe.any _,EndOK.by rfl ⟨rfl,trivial⟩ rfl rfl rfl rfl⟩
theorem Gy {p:List Nd} {g i:Nat} (hi:i<p.length):gi true 4 (ndG g p) (i*4)=some (.agg (ndC (p.getD i dN))):=by
 have hl:=bf p
 have key:∀ (q:List Nd) (i:Nat),i<q.length->((q.flatMap ndC).drop (i*4)).take 4=ndC (q.getD i dN):=by
  intro q
  induction q with
  |nil=>intro i h;simp at h
  |cons x q ih=>
   intro i h
   cases i with
   |zero=>rfl
   |succ i=>
    rw[List.flatMap_cons,show (i+1)*4=i*4+4 by omega,List.getD_cons_succ];exact ih i (by simpa using h)
 unfold gi;rw[show (ndG g p).kind=none from rfl];simp only;rw[Nat.ble_eq_true_of_le (by show i*4+4<=(p.flatMap ndC).length;omega)];show some (V.agg (((p.flatMap ndC).drop (i*4)).take 4))=_;rw[key p i hi]
theorem GP (p:List Nd) (h0:0<p.length) (hb:p.length<=2000000000):FC Tryz.prog 34 [.s (.row 0 1 p.length),ae p] 2 [(0,some (ndG 0 p))] (bV true) 2 [(0,some (ndG 0 p))]:=by
 have hsz:(Tryz.prog.types[49]).size=4:=by kernel_rfl
 unfold ae;refine FC.walk (by kernel_rfl) Tryz.func34 rfl rfl ?_;refine Ex.set 0 (.s (.sla 0 1 p.length)) (VLe.s (SLe.rowsla h0)) rfl ?_
 repeat'(first|exact y0|refine y1 ?_|refine y2 ?_ ?_|(refine y8 ?_ ?_<;>intro h<;>try exact y6)|refine Fin.bool (.inl rfl) rfl ?_|refine y3 ?_|refine y7 ?_ ?_|refine y4 ?_|(refine y9 ?_ ?_<;>intro h)|exact y5|fail)
 refine Ex.inv (σ:=Nat) (fun j=>[(5,nI j)]) (fun _=>[(0,some (ndG 0 p))]) (fun j=>j<=p.length) (fun j=>p.length-j) 0 rfl (fun _=>rfl) (Nat.zero_le _) ⟨VLe.refl _,trivial⟩ ⟨rfl,trivial⟩ ?_;intro j hj;by_cases hlt:j<p.length
 ·
  repeat'(first|exact y0|refine y1 ?_|refine y2 ?_ ?_|(refine y8 ?_ ?_<;>intro h<;>try exact y6)|refine RegX.ldS [.val (.agg (ndC (p.getD j dN)))] rfl rfl (by rw[hsz,aV,aX,Nat.zero_add];exact Gy hlt) rfl ?_|refine y3 ?_|refine y7 ?_ ?_|refine y4 ?_|(refine y9 ?_ ?_<;>intro h)|exact y5|fail)
  refine RegX.atCmp (CmpG.go rfl rfl ⟨⟨by kernel_rfl,by kernel_rfl⟩,trivial⟩ (BrG.any (fun h=>?_) (fun h=>?_)))
  ·exfalso;simp at h
  repeat'(first|exact y0|refine y1 ?_|refine y2 ?_ ?_|(refine y8 ?_ ?_<;>intro h<;>try exact y6)|refine y3 ?_|refine y7 ?_ ?_|refine y4 ?_|(refine y9 ?_ ?_<;>intro h)|exact y5|fail)
  all_goals try first
   |exact aa (by omega) (by omega)
  refine LoopR.same (j+1) (by omega) (by omega) rfl ⟨VLe.refl _,trivial⟩ ⟨rfl,trivial⟩ rfl rfl (by decide)
 ·
  repeat'(first|exact y0|refine y1 ?_|refine y2 ?_ ?_|(refine y8 ?_ ?_<;>intro h<;>try exact y6)|refine y3 ?_|refine y7 ?_ ?_|refine y4 ?_|(refine y9 ?_ ?_<;>intro h)|exact y5|fail)
  exact⟨.inl rfl,_,[],VLe.refl _,EndOK.by rfl ⟨rfl,trivial⟩ rfl rfl rfl rfl⟩
end Go.Proofs.YtegjgpldfgjoiaaGreatDoor
