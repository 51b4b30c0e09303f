import Derived.Test.YtphdhedhhlfepaaGreatDoorCzC23
set_option linter.unusedSimpArgs false
set_option linter.unusedVariables false
namespace Go.Proofs.YtphdhedhhlfepaaGreatDoor
open Go Ab
set_option maxRecDepth 100000
set_option maxHeartbeats 1000000
abbrev stL (p:List Nd) (nD:Nat) (G:List (Nat×Nat)):Hp:=[(0,some (anB p 3 nD 6 G.length)),(6,dgB 6 G)]
abbrev stL' (p:List Nd) (nD:Nat) (G:List (Nat×Nat)):Hp:=[(0,some (anB p 3 nD 8 G.length)),(6,none),(8,dgB 8 G)]
def StmC (p:List Nd) (nD N:Nat):Prop:=∀ (b:Nd) (k:Fo) (i:Nat) (lp:Bool) (G:List (Nat×Nat)),k.size<N→(Fo.cons b k .nil).At p i→(Fo.cons b k .nil).V [(true,83)]→G.length+2*k.size≤1000000000→
 FC Tryz.prog 105 [.s (.ptr (some (0,0))),nI i,bV lp] 8 (stL p nD G) .any 10 (stL' p nD (stmS false k (i+1) lp true G))
theorem stm_c (p:List Nd) (hp:p.length≤2048) (nD N:Nat) (ih:StmC p nD N):StmC p nD (N+1):=by
 intro b k i lp G hN ha hv hG;have hi:=At.lt ha;have hx:=At.get ha;have hsz:=At.size_le (Nat.le_of_lt hi) ha;simp only[Fo.size] at hsz;have hcs:=starts_len k (i+1)
 have hkid:(p.getD i dN).kids=((k.starts (i+1)).length:Nat):=by rw[hx,hcs];exact ha.2.1
 have hcc:=Fo.cnt_le k;have hch:=children_c p hp i (i+1+k.size) hi (k.starts (i+1)) hkid (At.chain ha.2.2.1) (by omega);have hcs0:(k.starts (i+1)).drop 0=k.starts (i+1):=rfl;have hkA:=ha.2.2.1;have hkV:=hv.2.1;generalize hcsd:k.starts (i+1)=cs at hcs hkid hch;refine FC.walk (by kernel_rfl) Tryz.func105 rfl rfl ?_
 repeat'(first|refine Ex.canon [0,1,2,3,4,5,6,7,6,7] 68 [(0,.s (.ptr (some (0,0)))),(2,bV lp),(6,bV true),(13,.s (intsF cs)),(14,nI cs.length),(15,nI 0)] [(0,some (anB p 3 nD 8 (G).length)),(8,dgB 8 (G))] rfl rfl ⟨VLe.refl _,VLe.refl _,VLe.refl _,VLe.refl _,VLe.refl _,VLe.refl _,trivial⟩ ⟨rfl,MemP.op rfl trivial⟩ (by unfold dgB;generalize List.flatMap dgC _=cg;cases cg<;>rfl) (Ex.block ?_)|exact y0|refine y1 ?_|refine y2 ?_ ?_|(refine y8 ?_ ?_<;>intro h<;>try exact y6)|(refine wC ?_;first|(refine wF 102 ?_;refine CallG.mv [0] 0 hch rfl rfl ⟨VLe.refl _,VLe.refl _,trivial⟩ rfl rfl (fun φ w b=>BlAt.view 1 rfl) rfl ⟨⟨rfl,_,rfl,rfl,fun h=>h⟩,trivial⟩ rfl rfl rfl rfl ?_))|refine y3 ?_|refine y7 ?_ ?_|refine y4 ?_|(refine y9 ?_ ?_<;>intro h)|exact y5|fail)
 refine Ex.inv (σ:=Fo×Nat×Nat×Bool×List (Nat×Nat)) (fun q=>[(6,bV q.2.2.2.1),(15,nI q.2.2.1)]) (fun q=>[(0,some (anB p 3 nD 8 (q.2.2.2.2).length)),(8,dgB 8 (q.2.2.2.2))])
  (fun q=>q.1.At p q.2.1∧q.1.V (List.replicate q.1.cnt (false,83))∧(i+1≤q.2.1∧q.2.1+q.1.size=i+1+k.size)∧q.2.2.1+q.1.cnt=cs.length∧cs.drop q.2.2.1=q.1.starts q.2.1∧q.2.2.2.2.length+2*q.1.size≤1000000000∧stmS false q.1 q.2.1 lp q.2.2.2.1 q.2.2.2.2=stmS false k (i+1) lp true G) (fun q=>q.1.size) (k,i+1,0,true,G) rfl (fun _=>rfl) ?_ ?_ ?_ ?_
 ·refine⟨hkA,hkV,⟨by simp only;omega,by simp only⟩,by simp only;omega,by simp only[List.drop_zero,hcsd],hG,rfl⟩
 ·exact⟨VLe.refl _,VLe.refl _,trivial⟩
 ·exact⟨rfl,SubP.op rfl trivial⟩
 ·rintro⟨t,cur,idx,r,Gt⟩ ⟨t1,t2,⟨t0,t3⟩,t4,t5,t6,t7⟩
  simp only at t0 t1 t2 t3 t4 t5 t6 t7 ⊢
  cases t with
  |nil=>
   simp only[Fo.cnt,Nat.add_zero] at t4;simp only[stmS] at t7;rw[←t7]
   repeat'(first|exact y0|refine y1 ?_|refine y2 ?_ ?_|(refine y8 ?_ ?_<;>intro h<;>try exact y6)|refine y3 ?_|refine y7 ?_ ?_|refine y4 ?_|(refine y9 ?_ ?_<;>intro h)|exact y5|fail)
   refine⟨.inr rfl,.tup [],[8,9],VLe.any _,EndOK.by rfl ?_ rfl ?_ rfl rfl⟩
   ·exact⟨rfl,MemP.op rfl trivial⟩
   ·exact okH_op rfl rfl rfl
  |cons x ks n=>
   simp only[Fo.size] at t3 t6;simp only[Fo.cnt] at t4
   have hcur:cs.getD idx 0=cur:=by
    have:(cs.drop idx)[0]? =some cur:=by rw[t5];rfl
    rw[List.getElem?_drop,Nat.add_zero] at this;rw[List.getD_eq_getElem?_getD,this];rfl
   have hnext:cs.drop (idx+1)=n.starts (cur+1+ks.size):=by
    rw[←List.drop_drop,t5];rfl
   have hcl:=At.lt t1;have hcx:=At.get t1;rw[show stmS false (.cons x ks n) cur lp r Gt=stmS false n (cur+1+ks.size) lp (r&& !decide (x.op=33∨x.op=34∨x.op=35)) (if x.op=31 then stmS true ks (cur+1) lp true (stG2 x.op cur lp (stG1 cur r Gt)) else if x.op=32 then stmS true ks (cur+1) true true (stG2 x.op cur lp (stG1 cur r Gt)) else stG2 x.op cur lp (stG1 cur r Gt)) from rfl] at t7;have hG1:=stG1_len cur r Gt;have hG1d:stG1 cur r Gt=if r then Gt else Gt++[(cur,10)]:=rfl;have hG1d':stG1 cur r Gt=stG1 cur r Gt:=rfl;generalize hG1e:stG1 cur r Gt=G1 at hG1 hG1d t7;rw[hG1e] at hG1d'
   repeat'(first|refine Ex.cutC 20 68 10 [(0,.s (.ptr (some (0,0)))),(2,bV lp),(6,bV r),(8,nI cur),(13,.s (intsF cs)),(14,nI cs.length),(15,nI idx)] [(0,some (anB p 3 nD 8 (G1).length)),(8,dgB 8 (G1))] rfl ?_ ?_|refine Ex.cutBI 2 68 10 [(0,.s (.ptr (some (0,0)))),(2,bV lp),(6,bV (r&& !decide (x.op=33∨x.op=34∨x.op=35))),(13,.s (intsF cs)),(14,nI cs.length),(15,nI idx)] [(0,some (anB p 3 nD 8 (if x.op=31 then stmS true ks (cur+1) lp true (stG2 x.op cur lp G1) else if x.op=32 then stmS true ks (cur+1) true true (stG2 x.op cur lp G1) else stG2 x.op cur lp G1).length)),(8,dgB 8 (if x.op=31 then stmS true ks (cur+1) lp true (stG2 x.op cur lp G1) else if x.op=32 then stmS true ks (cur+1) true true (stG2 x.op cur lp G1) else stG2 x.op cur lp G1))] rfl ?_ ?_|exact y0|refine y1 ?_|refine y2 ?_ ?_|(refine y8 ?_ ?_<;>intro h<;>try exact y6)|refine y3 ?_|refine y7 ?_ ?_|refine y4 ?_|(refine y9 ?_ ?_<;>intro h)|exact y5|fail)
   all_goals try omega
   ·have hr:r=false:=by
     cases r
     ·rfl
     ·simp at*
    subst hr;subst hG1d
    repeat'(first|exact y0|refine y1 ?_|refine y2 ?_ ?_|(refine y8 ?_ ?_<;>intro h<;>try exact y6)|(refine wC ?_;first|(refine wF 39 ?_;refine CallG.mo [0,1,2,3,4,5,8,9] (report_c p nD Gt cur 10 (by omega)) rfl (okH_op rfl rfl rfl) rfl rfl rfl ⟨VLe.refl _,VLe.of_eq (congrArg nI (by rw[hcur])),VLe.refl _,trivial⟩ ⟨⟨rfl,_,rfl,rfl,fun h=>h⟩,FitP.op rfl rfl trivial⟩ rfl rfl (wr:=[(0,some (anB p 3 nD 10 (Gt.length+1))),(8,none),(10,dgB 10 (Gt++[(cur,10)]))]) (by show [_,_,_]=_;rw[renO_op];rfl) ?_))|refine y3 ?_|refine y7 ?_ ?_|refine y4 ?_|(refine y9 ?_ ?_<;>intro h)|exact y5|fail)
    rw[show (if false=true then Gt else Gt++[(cur,10)]).length=Gt.length+1 from by simp];refine CutR.at [0,1,2,3,4,5,6,7,10,11] rfl rfl ⟨VLe.refl _,VLe.refl _,VLe.refl _,VLe.of_eq (congrArg nI (by rw[hcur])),VLe.refl _,VLe.refl _,VLe.refl _,trivial⟩ ⟨rfl,MemP.op rfl trivial⟩ ?_
    (unfold dgB;generalize List.flatMap dgC _=cg;cases cg<;>rfl)
   ·have hr:r=true:=by
     cases r
     ·simp at*
     ·rfl
    subst hr;subst hG1d;refine CutR.at [0,1,2,3,4,5,6,7,8,9] rfl rfl ⟨VLe.refl _,VLe.refl _,VLe.refl _,VLe.of_eq (congrArg nI (by rw[hcur])),VLe.refl _,VLe.refl _,VLe.refl _,trivial⟩ ⟨rfl,MemP.op rfl trivial⟩ ?_
    (unfold dgB;generalize List.flatMap dgC _=cg;cases cg<;>rfl)
   ·have ho:x.op=33:=by rw[←hcx];assumption
    rw[if_neg (by omega),if_neg (by omega),decide_eq_true (by omega),Bool.not_true,Bool.and_false];unfold stG2;rw[if_neg (by omega)];refine CutR.at [0,1,2,3,4,5,6,7,8,9] rfl rfl ⟨VLe.refl _,VLe.refl _,VLe.refl _,VLe.refl _,VLe.refl _,VLe.refl _,trivial⟩ ⟨rfl,MemP.op rfl trivial⟩ ?_
    (unfold dgB;generalize List.flatMap dgC _=cg;cases cg<;>rfl)
   ·have ho:x.op=34:=by rw[←hcx];assumption
    have hlp:lp=false:=by
     cases lp
     ·rfl
     ·simp at*
    subst hlp;rw[if_neg (by omega),if_neg (by omega),decide_eq_true (by omega),Bool.not_true,Bool.and_false];unfold stG2;rw[if_pos ⟨by omega,rfl⟩,List.length_append,List.length_singleton]
    repeat'(first|exact y0|refine y1 ?_|refine y2 ?_ ?_|(refine y8 ?_ ?_<;>intro h<;>try exact y6)|(refine wC ?_;first|(refine wF 39 ?_;refine CallG.mo [0,1,2,3,4,5,8,9] (report_c p nD G1 cur 8 (by omega)) rfl (okH_op rfl rfl rfl) rfl rfl rfl ⟨VLe.refl _,VLe.refl _,VLe.refl _,trivial⟩ ⟨⟨rfl,_,rfl,rfl,fun h=>h⟩,FitP.op rfl rfl trivial⟩ rfl rfl (wr:=[(0,some (anB p 3 nD 10 (G1.length+1))),(8,none),(10,dgB 10 (G1++[(cur,8)]))]) (by show [_,_,_]=_;rw[renO_op];rfl) ?_))|refine y3 ?_|refine y7 ?_ ?_|refine y4 ?_|(refine y9 ?_ ?_<;>intro h)|exact y5|fail)
    refine CutR.at [0,1,2,3,4,5,6,7,10,11] rfl rfl ⟨VLe.refl _,VLe.refl _,VLe.refl _,VLe.refl _,VLe.refl _,VLe.refl _,trivial⟩ ⟨rfl,MemP.op rfl trivial⟩ ?_
    (unfold dgB;generalize List.flatMap dgC _=cg;cases cg<;>rfl)
   ·have ho:x.op=34:=by rw[←hcx];assumption
    have hlp:lp=true:=by
     cases lp
     ·simp at*
     ·rfl
    subst hlp;rw[if_neg (by omega),if_neg (by omega),decide_eq_true (by omega),Bool.not_true,Bool.and_false];unfold stG2;rw[if_neg (by simp)];refine CutR.at [0,1,2,3,4,5,6,7,8,9] rfl rfl ⟨VLe.refl _,VLe.refl _,VLe.refl _,VLe.refl _,VLe.refl _,VLe.refl _,trivial⟩ ⟨rfl,MemP.op rfl trivial⟩ ?_
    (unfold dgB;generalize List.flatMap dgC _=cg;cases cg<;>rfl)
   ·have ho:x.op=35:=by rw[←hcx];assumption
    have hlp:lp=false:=by
     cases lp
     ·rfl
     ·simp at*
    subst hlp;rw[if_neg (by omega),if_neg (by omega),decide_eq_true (by omega),Bool.not_true,Bool.and_false];unfold stG2;rw[if_pos ⟨by omega,rfl⟩,List.length_append,List.length_singleton]
    repeat'(first|exact y0|refine y1 ?_|refine y2 ?_ ?_|(refine y8 ?_ ?_<;>intro h<;>try exact y6)|(refine wC ?_;first|(refine wF 39 ?_;refine CallG.mo [0,1,2,3,4,5,8,9] (report_c p nD G1 cur 8 (by omega)) rfl (okH_op rfl rfl rfl) rfl rfl rfl ⟨VLe.refl _,VLe.refl _,VLe.refl _,trivial⟩ ⟨⟨rfl,_,rfl,rfl,fun h=>h⟩,FitP.op rfl rfl trivial⟩ rfl rfl (wr:=[(0,some (anB p 3 nD 10 (G1.length+1))),(8,none),(10,dgB 10 (G1++[(cur,8)]))]) (by show [_,_,_]=_;rw[renO_op];rfl) ?_))|refine y3 ?_|refine y7 ?_ ?_|refine y4 ?_|(refine y9 ?_ ?_<;>intro h)|exact y5|fail)
    refine CutR.at [0,1,2,3,4,5,6,7,10,11] rfl rfl ⟨VLe.refl _,VLe.refl _,VLe.refl _,VLe.refl _,VLe.refl _,VLe.refl _,trivial⟩ ⟨rfl,MemP.op rfl trivial⟩ ?_
    (unfold dgB;generalize List.flatMap dgC _=cg;cases cg<;>rfl)
   ·have ho:x.op=35:=by rw[←hcx];assumption
    have hlp:lp=true:=by
     cases lp
     ·simp at*
     ·rfl
    subst hlp;rw[if_neg (by omega),if_neg (by omega),decide_eq_true (by omega),Bool.not_true,Bool.and_false];unfold stG2;rw[if_neg (by simp)];refine CutR.at [0,1,2,3,4,5,6,7,8,9] rfl rfl ⟨VLe.refl _,VLe.refl _,VLe.refl _,VLe.refl _,VLe.refl _,VLe.refl _,trivial⟩ ⟨rfl,MemP.op rfl trivial⟩ ?_
    (unfold dgB;generalize List.flatMap dgC _=cg;cases cg<;>rfl)
   ·have ho:x.op=31:=by rw[←hcx];assumption
    obtain⟨e,ke,rest,rfl,he,hrV,hr1,hr32⟩:=stm_kids t2 (by omega);have hcs':=starts_len (.cons e ke rest) (cur+1)
    have hkid':(p.getD cur dN).kids=(((Fo.cons e ke rest).starts (cur+1)).length:Nat):=by rw[hcx,hcs'];exact t1.2.1
    have hcc':=Fo.cnt_le (.cons e ke rest);have hch':=children_c p hp cur (cur+1+(Fo.cons e ke rest).size) hcl _ hkid' (At.chain t1.2.2.1) (by omega);have hd1:((Fo.cons e ke rest).starts (cur+1)).drop 1=rest.starts (cur+1+1+ke.size):=rfl;have hrA:=t1.2.2.1.2.2.2;simp only[Fo.cnt,Fo.size] at hcs' hcc' t3 t6;generalize (Fo.cons e ke rest).starts (cur+1)=cs' at*
    have hst:∀ (m:Bool) (lq:Bool) (r:Bool) (G:List (Nat×Nat)),stmS true (.cons e ke rest) (cur+1) lq r G=stmS true rest (cur+1+1+ke.size) lq r G:=fun m lq r G=>by simp only[stmS,if_neg he]
    rw[hst true,hst true] at t7;rw[hst true,hst true]
    have hG2:stG2 x.op cur lp G1=G1:=by unfold stG2;rw[if_neg (by omega)]
    rw[hG2] at t7 ⊢;rw[decide_eq_false (by omega),Bool.not_false,Bool.and_true] at*;rw[if_pos ho] at t7 ⊢
    repeat'(first|exact y0|refine y1 ?_|refine y2 ?_ ?_|(refine y8 ?_ ?_<;>intro h<;>try exact y6)|(refine wC ?_;first|(refine wF 102 ?_;refine CallG.mv [0] 0 hch' rfl rfl ⟨VLe.refl _,VLe.refl _,trivial⟩ rfl rfl (fun φ w b=>BlAt.view 1 rfl) rfl ⟨⟨rfl,_,rfl,rfl,fun h=>h⟩,trivial⟩ rfl rfl rfl rfl ?_))|refine y3 ?_|refine y7 ?_ ?_|refine y4 ?_|(refine y9 ?_ ?_<;>intro h)|exact y5|fail)
    all_goals try omega
    refine Ex.inv (σ:=Fo×Nat×Nat×List (Nat×Nat)) (fun q=>[(49,nI q.2.2.1)]) (fun q=>[(0,some (anB p 3 nD 8 (q.2.2.2).length)),(8,dgB 8 (q.2.2.2))])
     (fun q=>q.1.At p q.2.1∧q.1.V (List.replicate q.1.cnt (true,83))∧(cur+1+1+ke.size≤q.2.1∧q.2.1+q.1.size=cur+1+(1+ke.size+rest.size))∧q.2.2.1+q.1.cnt=rest.cnt∧cs'.drop (1+q.2.2.1)=q.1.starts q.2.1∧q.2.2.2.length+2*q.1.size≤1000000000∧stmS true q.1 q.2.1 lp true q.2.2.2=stmS true rest (cur+1+1+ke.size) lp true G1) (fun q=>q.1.size) (rest,cur+1+1+ke.size,0,G1) rfl (fun _=>rfl) ?_ ?_ ?_ ?_
    ·exact⟨hrA,hrV,⟨Nat.le_refl _,by simp only;omega⟩,by simp only;omega,hd1,by simp only;omega,rfl⟩
    ·exact⟨VLe.refl _,trivial⟩
    ·exact⟨rfl,SubP.op rfl trivial⟩
    ·rintro⟨u,cu,iu,Gu⟩ ⟨u1,u2,⟨u0,u3⟩,u4,u5,u6,u7⟩
     simp only at u0 u1 u2 u3 u4 u5 u6 u7 ⊢
     cases u with
     |nil=>
      simp only[Fo.cnt,Nat.add_zero] at u4;simp only[stmS] at u7;rw[←u7]
      repeat'(first|exact y0|refine y1 ?_|refine y2 ?_ ?_|(refine y8 ?_ ?_<;>intro h<;>try exact y6)|refine y3 ?_|refine y7 ?_ ?_|refine y4 ?_|(refine y9 ?_ ?_<;>intro h)|exact y5|fail)
      all_goals try omega
      refine CutR.at [0,1,2,3,4,5,6,7,8,9] rfl rfl ⟨VLe.refl _,VLe.refl _,VLe.refl _,VLe.refl _,VLe.refl _,VLe.refl _,trivial⟩ ⟨rfl,MemP.op rfl trivial⟩ ?_
      (unfold dgB;generalize List.flatMap dgC _=cg;cases cg<;>rfl)
     |cons b' bl' n'=>
      simp only[Fo.size] at u3 u6;simp only[Fo.cnt] at u4
      have hbi:cs'.getD (1+iu) 0=cu:=by
       have:(cs'.drop (1+iu))[0]? =some cu:=by rw[u5];rfl
       rw[List.getElem?_drop,Nat.add_zero] at this;rw[List.getD_eq_getElem?_getD,this];rfl
      have hnx:cs'.drop (1+(iu+1))=n'.starts (cu+1+bl'.size):=by
       rw[show 1+(iu+1)=1+iu+1 by omega,←List.drop_drop,u5];rfl
      have hb4:b'.op=4:=u2.1.1;rw[show stmS true (.cons b' bl' n') cu lp true Gu=stmS true n' (cu+1+bl'.size) lp true (stmS false bl' (cu+1) lp true Gu) from by simp only[stmS,if_pos hb4]] at u7;have hrec:=ih b' bl' cu lp Gu (by omega) ⟨u1.1,u1.2.1,u1.2.2.1,trivial⟩ ⟨u2.1,u2.2.1,trivial⟩ (by omega);have hln:=stmS_len false bl' (cu+1) lp true Gu;generalize stmS false bl' (cu+1) lp true Gu=G3 at*
      repeat'(first|exact y0|refine y1 ?_|refine y2 ?_ ?_|(refine y8 ?_ ?_<;>intro h<;>try exact y6)|(refine wC ?_;first|(refine wF 105 ?_;refine CallG.mo [0,1,2,3,4,5,8,9] hrec rfl (okH_op rfl rfl rfl) rfl rfl rfl ⟨VLe.refl _,VLe.of_eq (congrArg nI (by rw[hbi])),VLe.refl _,trivial⟩ ⟨⟨rfl,_,rfl,rfl,fun h=>h⟩,FitP.op rfl rfl trivial⟩ rfl rfl (wr:=[(0,some (anB p 3 nD 10 G3.length)),(8,none),(10,dgB 10 G3)]) (by show [_,_,_]=_;rw[renO_op];rfl) ?_))|refine y3 ?_|refine y7 ?_ ?_|refine y4 ?_|(refine y9 ?_ ?_<;>intro h)|exact y5|fail)
      all_goals try omega
      refine LoopR.move (n',cu+1+bl'.size,iu+1,G3) ⟨u1.2.2.2,u2.2.2,⟨by simp only;omega,by simp only;omega⟩,by simp only;omega,hnx,by simp only;omega,u7⟩ (by simp only[Fo.size];omega) [0,1,2,3,4,5,6,7,10,11] rfl ?_ ?_ ?_
      ·repeat' (first|exact VLe.refl _|exact VLe.any _|exact True.intro|refine⟨?_,?_⟩)
      ·exact⟨rfl,MemP.op rfl trivial⟩
      ·(unfold dgB;generalize List.flatMap dgC _=cg;cases cg<;>rfl)
   ·have ho:x.op=32:=by rw[←hcx];assumption
    obtain⟨e,ke,rest,rfl,he,hrV,hr1,hr32⟩:=stm_kids t2 (by omega);have hcs':=starts_len (.cons e ke rest) (cur+1)
    have hkid':(p.getD cur dN).kids=(((Fo.cons e ke rest).starts (cur+1)).length:Nat):=by rw[hcx,hcs'];exact t1.2.1
    have hcc':=Fo.cnt_le (.cons e ke rest);have hch':=children_c p hp cur (cur+1+(Fo.cons e ke rest).size) hcl _ hkid' (At.chain t1.2.2.1) (by omega);have hd1:((Fo.cons e ke rest).starts (cur+1)).drop 1=rest.starts (cur+1+1+ke.size):=rfl;have hrA:=t1.2.2.1.2.2.2;simp only[Fo.cnt,Fo.size] at hcs' hcc' t3 t6;generalize (Fo.cons e ke rest).starts (cur+1)=cs' at*
    have hst:∀ (m:Bool) (lq:Bool) (r:Bool) (G:List (Nat×Nat)),stmS true (.cons e ke rest) (cur+1) lq r G=stmS true rest (cur+1+1+ke.size) lq r G:=fun m lq r G=>by simp only[stmS,if_neg he]
    rw[hst true,hst true] at t7;rw[hst true,hst true]
    have hG2:stG2 x.op cur lp G1=G1:=by unfold stG2;rw[if_neg (by omega)]
    rw[hG2] at t7 ⊢;rw[decide_eq_false (by omega),Bool.not_false,Bool.and_true] at*;rw[if_neg (by omega),if_pos ho] at t7 ⊢;have hc1:=hr32 ho
    cases rest with
    |nil=>exact absurd hr1 (by decide)
    |cons b' bl' n'=>
     cases n' with
     |cons b2 bl2 n2=>simp only[Fo.cnt] at hc1;omega
     |nil=>
      have hb4:b'.op=4:=hrV.1.1
      have hbi:cs'.getD 1 0=cur+1+1+ke.size:=by
       have:(cs'.drop 1)[0]? =some (cur+1+1+ke.size):=by rw[hd1];rfl
       rw[List.getElem?_drop,Nat.add_zero] at this;rw[List.getD_eq_getElem?_getD,this];rfl
      simp only[Fo.size,Nat.add_zero] at t3 t6;rw[show stmS true (.cons b' bl' .nil) (cur+1+1+ke.size) true true G1=stmS false bl' (cur+1+1+ke.size+1) true true G1 from by simp only[stmS,if_pos hb4]] at t7 ⊢;have hrec:=ih b' bl' (cur+1+1+ke.size) true G1 (by omega) hrA hrV (by omega);generalize stmS false bl' (cur+1+1+ke.size+1) true true G1=G3 at*;simp only[Fo.cnt] at hcs'
      repeat'(first|exact y0|refine y1 ?_|refine y2 ?_ ?_|(refine y8 ?_ ?_<;>intro h<;>try exact y6)|(refine wC ?_;first|(refine wF 102 ?_;refine CallG.mv [0] 0 hch' rfl rfl ⟨VLe.refl _,VLe.refl _,trivial⟩ rfl rfl (fun φ w b=>BlAt.view 1 rfl) rfl ⟨⟨rfl,_,rfl,rfl,fun h=>h⟩,trivial⟩ rfl rfl rfl rfl ?_)|(refine wF 105 ?_;refine CallG.mo [0,1,2,3,4,5,8,9] hrec rfl (okH_op rfl rfl rfl) rfl rfl rfl ⟨VLe.refl _,VLe.of_eq (congrArg nI (by rw[hbi])),VLe.refl _,trivial⟩ ⟨⟨rfl,_,rfl,rfl,fun h=>h⟩,FitP.op rfl rfl trivial⟩ rfl rfl (wr:=[(0,some (anB p 3 nD 10 G3.length)),(8,none),(10,dgB 10 G3)]) (by show [_,_,_]=_;rw[renO_op];rfl) ?_))|refine y3 ?_|refine y7 ?_ ?_|refine y4 ?_|(refine y9 ?_ ?_<;>intro h)|exact y5|fail)
      all_goals try omega
      refine CutR.at [0,1,2,3,4,5,6,7,10,11] rfl rfl ⟨VLe.refl _,VLe.refl _,VLe.refl _,VLe.refl _,VLe.refl _,VLe.refl _,trivial⟩ ⟨rfl,MemP.op rfl trivial⟩ ?_
      (unfold dgB;generalize List.flatMap dgC _=cg;cases cg<;>rfl)
   ·rw[←hcx] at t7 ⊢
    rw[if_neg (by omega),if_neg (by omega),decide_eq_false (by omega),Bool.not_false,Bool.and_true];unfold stG2;rw[if_neg (by omega)];refine CutR.at [0,1,2,3,4,5,6,7,8,9] rfl rfl ⟨VLe.refl _,VLe.refl _,VLe.refl _,VLe.refl _,VLe.refl _,VLe.refl _,trivial⟩ ⟨rfl,MemP.op rfl trivial⟩ ?_
    (unfold dgB;generalize List.flatMap dgC _=cg;cases cg<;>rfl)
   ·have hln:(if x.op=31 then stmS true ks (cur+1) lp true (stG2 x.op cur lp G1) else if x.op=32 then stmS true ks (cur+1) true true (stG2 x.op cur lp G1) else stG2 x.op cur lp G1).length+2*n.size≤1000000000:=by
     have h0:=stG_len x.op cur lp r Gt;rw[hG1e] at h0;have h1:=stmS_len true ks (cur+1) lp true (stG2 x.op cur lp G1);have h2:=stmS_len true ks (cur+1) true true (stG2 x.op cur lp G1);split
     ·omega
     ·split<;>omega
    generalize (if x.op=31 then stmS true ks (cur+1) lp true (stG2 x.op cur lp G1) else if x.op=32 then stmS true ks (cur+1) true true (stG2 x.op cur lp G1) else stG2 x.op cur lp G1)=G4 at*;refine LoopR.same (n,cur+1+ks.size,idx+1,(r&& !decide (x.op=33∨x.op=34∨x.op=35)),G4) ⟨t1.2.2.2,t2.2.2,⟨by simp only;omega,by simp only;omega⟩,by simp only;omega,hnext,hln,t7⟩ (by simp only[Fo.size];omega) rfl ⟨VLe.refl _,VLe.refl _,trivial⟩ ⟨rfl,SubP.op rfl trivial⟩ rfl ?_ (by decide);exact okH_op rfl rfl rfl
theorem stm_all (p:List Nd) (hp:p.length≤2048) (nD:Nat):∀ N,StmC p nD N
 |0=>fun b k i lp G h=>absurd h (Nat.not_lt_zero _)
 |N+1=>stm_c p hp nD N (stm_all p hp nD N)
set_option maxRecDepth 100000
set_option maxHeartbeats 1000000
theorem args_tail {p:List Nd} {c':Int}:∀ (ls:List Int) (t:Fo) (i:Nat),(ls.all leafK)=true→t.V (ls.map (fun c=>(false,c))++[(true,c')])→t.At p i→
 ∃ b bl,(Fo.cons b bl .nil).At p (i+ls.length)∧(Fo.cons b bl .nil).V [(true,c')]∧t.size=ls.length+1+bl.size
 |[],t,i,_,h,ha=>by
  obtain⟨y,bl,n,rfl,h1,h2,h3⟩:=V_blk h;have:=V_nil h1;subst this;exact⟨y,bl,ha,h,by simp only[Fo.size,List.length_nil];omega⟩
 |c::ls,t,i,hl,h,ha=>by
  simp only[List.all_cons,Bool.and_eq_true] at hl;obtain⟨y,n,rfl,h1,h2⟩:=V_leaf hl.1 h;obtain⟨b,bl,g1,g2,g3⟩:=args_tail ls n (i+1) hl.2 h1 (by simpa [Fo.size] using ha.2.2.2)
  have e:i+1+ls.length=i+(c::ls).length:=by simp only[List.length_cons];omega
  rw[e] at g1;exact⟨b,bl,g1,g2,by simp only[Fo.size,List.length_cons];omega⟩
def argG (p:List Nd) (lim:Int):Nat→Nat→List (Nat×Nat)→List (Nat×Nat)
 |0,_,G=>G
 |c+1,j,G=>argG p lim c (j+1) (if (p.getD j dN).op=7∧lim≤numN p j then G++[(j,9)] else G)
theorem argG_len (p:List Nd) (lim:Int):∀ (c j:Nat) (G:List (Nat×Nat)),(argG p lim c j G).length≤G.length+c
 |0,_,_=>Nat.le_refl _
 |c+1,j,G=>by
  simp only[argG];have:=argG_len p lim c (j+1) (if (p.getD j dN).op=7∧lim≤numN p j then G++[(j,9)] else G)
  have h2:(if (p.getD j dN).op=7∧lim≤numN p j then G++[(j,9)] else G).length≤G.length+1:=by split<;>simp
  omega
def metG (p:List Nd) (bl:Fo) (i:Nat) (G:List (Nat×Nat)):List (Nat×Nat):=stmS false bl (i+6) false true (argG p (numN p (i+2)) (bl.size+1) (i+5) G)
theorem met_c (p:List Nd) (hp:p.length≤2048) (nD:Nat) (i:Nat) (b:Nd) (bl:Fo) (G:List (Nat×Nat)) (hend0:Ends p (i+6+bl.size) 1 i) (ha:(Fo.cons b bl .nil).At p (i+5)) (hv:(Fo.cons b bl .nil).V [(true,83)]) (hG:G.length+4*2048≤1000000000):
 FC Tryz.prog 63 [.s (.ptr (some (0,0))),nI i] 8 (stL p nD G) .any 10 (stL' p nD (metG p bl i G)):=by
 have hi5:=At.lt ha;have hsz:=At.size_le (Nat.le_of_lt hi5) ha;simp only[Fo.size] at hsz;have hend:=end_c p hp i (i+6+bl.size) hend0;have hal:=argG_len p (numN p (i+2)) (bl.size+1) (i+5) G;have hst:=stm_all p hp nD (bl.size+1) b bl (i+5) false (argG p (numN p (i+2)) (bl.size+1) (i+5) G) (Nat.lt_succ_self _) ha hv (by omega);unfold metG;generalize hA:argG p (numN p (i+2)) (bl.size+1) (i+5) G=A at*;refine FC.walk (by kernel_rfl) Tryz.func63 rfl rfl ?_
 repeat'(first|refine Ex.canon [0,1,2,3,4,5,6,7,6,7] 52 [(0,.s (.ptr (some (0,0)))),(1,nI i),(4,nI (i+6+bl.size:Nat)),(5,nI (i+5:Nat))] [(0,some (anB p 3 nD 8 (G).length)),(8,dgB 8 (G))] rfl rfl ⟨VLe.refl _,VLe.refl _,VLe.refl _,VLe.of_eq (congrArg nI (by push_cast;rfl)),trivial⟩ ⟨rfl,MemP.op rfl trivial⟩ (by unfold dgB;generalize List.flatMap dgC _=cg;cases cg<;>rfl) (Ex.block ?_)|exact y0|refine y1 ?_|refine y2 ?_ ?_|(refine y8 ?_ ?_<;>intro h<;>try exact y6)|(refine wC ?_;first|(refine wF 101 ?_;refine CallG.mv [0] 0 hend rfl rfl ⟨VLe.refl _,VLe.refl _,trivial⟩ rfl rfl (fun φ w b=>BlAt.view 1 rfl) rfl ⟨⟨rfl,_,rfl,rfl,fun h=>h⟩,trivial⟩ rfl rfl rfl rfl ?_))|refine y3 ?_|refine y7 ?_ ?_|refine y4 ?_|(refine y9 ?_ ?_<;>intro h)|exact y5|fail)
 refine Ex.inv (σ:=Nat×Nat×List (Nat×Nat)) (fun q=>[(5,nI q.2.1)]) (fun q=>[(0,some (anB p 3 nD 8 (q.2.2).length)),(8,dgB 8 (q.2.2))])
  (fun q=>q.1+q.2.1=i+6+bl.size∧i+5≤q.2.1∧q.2.2.length+q.1≤G.length+(bl.size+1)∧argG p (numN p (i+2)) q.1 q.2.1 q.2.2=A) (fun q=>q.1) (bl.size+1,i+5,G) rfl (fun _=>rfl) ?_ ?_ ?_ ?_
 ·exact⟨by simp only;omega,Nat.le_refl _,Nat.le_refl _,hA⟩
 ·exact⟨VLe.refl _,trivial⟩
 ·exact⟨rfl,SubP.op rfl trivial⟩
 ·rintro⟨c,j,Gt⟩ ⟨t1,t2,t3,t4⟩
  simp only at t1 t2 t3 t4 ⊢
  cases c with
  |zero=>
   simp only[argG] at t4;subst t4
   repeat'(first|exact y0|refine y1 ?_|refine y2 ?_ ?_|(refine y8 ?_ ?_<;>intro h<;>try exact y6)|(refine wC ?_;first|(refine wF 105 ?_;refine CallG.mo [0,1,2,3,4,5,8,9] hst rfl (okH_op rfl rfl rfl) rfl rfl rfl ⟨VLe.refl _,VLe.of_eq (congrArg nI (by push_cast;rfl)),VLe.refl _,trivial⟩ ⟨⟨rfl,_,rfl,rfl,fun h=>h⟩,FitP.op rfl rfl trivial⟩ rfl rfl (wr:=[(0,some (anB p 3 nD 10 (stmS false bl (i+5+1) false true Gt).length)),(8,none),(10,dgB 10 (stmS false bl (i+5+1) false true Gt))]) (by show [_,_,_]=_;rw[renO_op];rfl) ?_))|refine y3 ?_|refine y7 ?_ ?_|refine y4 ?_|(refine y9 ?_ ?_<;>intro h)|exact y5|fail)
   all_goals try omega
   refine⟨.inr rfl,.tup [],[10,11],VLe.any _,EndOK.by rfl ?_ rfl ?_ rfl rfl⟩
   ·exact⟨rfl,MemP.op rfl trivial⟩
   ·exact okH_op rfl rfl rfl
  |succ c=>
   simp only[argG] at t4;by_cases hc:(p.getD j dN).op=7∧numN p (i+2)≤numN p j
   ·rw[if_pos hc] at t4
    obtain⟨hc1,hc2⟩:=hc;unfold numN at hc2
    repeat'(first|exact y0|refine y1 ?_|refine y2 ?_ ?_|(refine y8 ?_ ?_<;>intro h<;>try(first|(exact absurd hc2 (by assumption))|exact y6))|(refine wC ?_;first|(refine wF 39 ?_;refine CallG.mo [0,1,2,3,4,5,8,9] (report_c p nD Gt j 9 (by omega)) rfl (okH_op rfl rfl rfl) rfl rfl rfl ⟨VLe.refl _,VLe.refl _,VLe.refl _,trivial⟩ ⟨⟨rfl,_,rfl,rfl,fun h=>h⟩,FitP.op rfl rfl trivial⟩ rfl rfl (wr:=[(0,some (anB p 3 nD 10 (Gt.length+1))),(8,none),(10,dgB 10 (Gt++[(j,9)]))]) (by show [_,_,_]=_;rw[renO_op];rfl) ?_))|refine y3 ?_|refine y7 ?_ ?_|refine y4 ?_|(refine y9 ?_ ?_<;>intro h)|exact y5|fail)
    all_goals try omega
    refine LoopR.move (c,j+1,Gt++[(j,9)]) ⟨by simp only;omega,by simp only;omega,by simp only[List.length_append,List.length_singleton];omega,t4⟩ (by simp only;omega) [0,1,2,3,4,5,6,7,10,11] rfl ?_ ?_ ?_
    ·repeat' (first|exact VLe.refl _|exact VLe.any _|exact True.intro|exact VLe.of_eq (congrArg nI (by push_cast;rfl))|refine⟨?_,?_⟩)
    ·rw[List.length_append,List.length_singleton]
     exact⟨rfl,MemP.op rfl trivial⟩
    ·(unfold dgB;generalize List.flatMap dgC _=cg;cases cg<;>rfl)
   ·rw[if_neg hc] at t4
    unfold numN at hc
    repeat'(first|exact y0|refine y1 ?_|refine y2 ?_ ?_|(refine y8 ?_ ?_<;>intro h<;>try(first|(exfalso;exact hc ⟨by assumption,by assumption⟩)|exact y6))|refine y3 ?_|refine y7 ?_ ?_|refine y4 ?_|(refine y9 ?_ ?_<;>intro h)|exact y5|fail)
    all_goals try omega
    all_goals
     refine LoopR.same (c,j+1,Gt) ⟨by simp only;omega,by simp only;omega,by simp only;omega,t4⟩ (by simp only;omega) rfl ⟨VLe.of_eq (congrArg nI (by push_cast;rfl)),trivial⟩ ⟨rfl,SubP.op rfl trivial⟩ rfl ?_ (by decide);exact okH_op rfl rfl rfl
set_option maxRecDepth 100000
set_option maxHeartbeats 1000000
abbrev scB (S:List Pth):Bl:={cells:=S.flatMap ptC,ty:=92,sym:=true,flat:=true}
theorem setL_pts:∀ {T:List Pth} {i:Nat} {q:Pth},i<T.length→setL (T.flatMap ptC) (i*3) (ptC q)=(T.set i q).flatMap ptC
 |[],i,q,h=>by simp at h
 |p::T,0,q,_=>by
  simp only[List.flatMap_cons,List.set_cons_zero,Nat.zero_mul];have:=setL_app (ptC q) [] (ptC p++T.flatMap ptC) (by simp[ptC])
  simpa [ptC] using this
 |p::T,i+1,q,h=>by
  simp only[List.flatMap_cons,List.set_cons_succ];have ih:=setL_pts (T:=T) (i:=i) (q:=q) (by simpa using h)
  have e:(i+1)*3=(ptC p).length+i*3:=by simp[ptC];omega
  rw[e,←ih]
  have h2:∀ (vs l pre:List S) (o:Nat),setL (pre++l) (pre.length+o) vs=pre++setL l o vs:=by
   intro vs
   induction vs with
   |nil=>intro l pre o;rfl
   |cons v vs ihv=>
    intro l pre o;simp only[setL];rw[List.set_append_right _ _ (by omega),Nat.add_sub_cancel_left,show pre.length+o+1=pre.length+(o+1) by omega,ihv]
  exact h2 _ _ _ _
abbrev anL (p:List Nd) (s:St):Hp:=[(0,some (anB p 3 s.D.length 6 s.G.length)),(1,some (scB s.S)),(3,dcB 3 s.D),(5,some (mapB s.F)),(6,dgB 6 s.G)]
abbrev anL' (p:List Nd) (s:St):Hp:=[(0,some (anB p 8 s.D.length 10 s.G.length)),(1,some (scB s.S)),(3,none),(6,none),(5,some (mapB s.F)),(8,dcB 8 s.D),(10,dgB 10 s.G)]
def DeclC (p:List Nd) (N:Nat):Prop:=∀ (x:Nd) (k:Fo) (c:Int) (i:Nat) (sc:Pth) (s:St),k.size<N→(c=68∨c=70)→(Fo.cons x k .nil).At p i→(Fo.cons x k .nil).V [(false,c)]→s.S.length=p.length→s.D.length≤i→s.G.length≤i→
 FC Tryz.prog 57 [.s (.ptr (some (0,0))),nI i,ptV sc] 8 (anL p s) (nI (i+1+k.size:Nat)) 12 (anL' p (declS false (.cons x k .nil) i sc s))
theorem decl_c (p:List Nd) (hp:p.length≤2048) (hw:wfN p) (N:Nat) (ih:DeclC p N):DeclC p (N+1):=by
 intro x k c i sc s hN hc ha hv hS hD hG;have hi:=At.lt ha;have hx:=At.get ha;obtain⟨hi1,hnm⟩:=decl_name hc ha hv;have hpa:=pathAt_c p hw (i+1) hi1;have hend:=end_c p hp i (i+1+k.size) (At.ends1 ha)
 have hse:(Tryz.prog.types[92]).size=3:=by kernel_rfl
 have hcat:plus 0 (times i (Tryz.prog.types[92]).size)=i*3:=by rw[hse,plus_eq,times_eq,Nat.zero_add]
 have hjn:=join_c sc (nameF k);rw[hnm] at hjn;generalize hhd:headS x (nameF k) i sc s=hd;obtain⟨inner,s1⟩:=hd
 have hfin:declS false (.cons x k .nil) i sc s=if hasBl x.op then declS true k (i+1) inner s1 else s1:=by simp only[declS,hhd]
 have hlen:=headS_len x (nameF k) i sc s;rw[hhd] at hlen;simp only at hlen;rw[hfin];unfold headS at hhd;rw[hnm] at hhd;rw[←hx] at hhd;have hjr:= @joinP_root sc (parseP (p.getD (i+1) dN).str).1;generalize joinP sc (parseP (p.getD (i+1) dN).str).1=jj at*;obtain⟨jp,jok⟩:=jj;refine FC.walk (by kernel_rfl) Tryz.func57 rfl rfl ?_
 repeat'(first|exact y0|refine y1 ?_|refine y2 ?_ ?_|(refine y8 ?_ ?_<;>intro h<;>try exact y6)|refine y3 ?_|refine y7 ?_ ?_|refine y4 ?_|(refine y9 ?_ ?_<;>intro h)|exact y5|fail)
 ·refine RegX.sto [.cells ((s.S.set i sc).flatMap ptC)] rfl rfl ⟨?_,?_⟩ rfl ?_
  ·rw[hcat];show i*3+3≤(s.S.flatMap ptC).length
   rw[flat_len];omega
  ·rw[hcat];exact (setL_pts (by omega)).symm
  repeat'(first|refine Ex.cutB 0 107 14 [(0,.s (.ptr (some (0,0)))),(1,nI i),(7,.s (.ptr (some (9,0)))),(8,nI (p.getD i dN).op)] [(0,some (anB p 10 s1.D.length 12 s1.G.length)),(1,some (scB s1.S)),(5,some (mapB s1.F)),(9,some {cells:=ptC inner,ty:=92}),(10,dcB 10 s1.D),(12,dgB 12 s1.G)] rfl ?_ ?_|exact y0|refine y1 ?_|refine y2 ?_ ?_|(refine y8 ?_ ?_<;>intro h<;>try exact y6)|refine y3 ?_|refine y7 ?_ ?_|refine y4 ?_|(refine y9 ?_ ?_<;>intro h)|exact y5|fail)
  ·cases jok
   ·rw[if_pos ‹(p.getD i dN).op=10›,if_neg (by simp)] at hhd
    cases hhd
    repeat'(first|exact y0|refine y1 ?_|refine y2 ?_ ?_|(refine y8 ?_ ?_<;>intro h<;>try exact y6)|(refine wC ?_;first|(refine wF 62 ?_;refine CallG.mv [0] 0 hpa rfl rfl ⟨VLe.refl _,VLe.of_eq (congrArg nI (by push_cast;rfl)),trivial⟩ rfl rfl (fun φ w b=>BlAt.view 1 rfl) rfl ⟨⟨rfl,_,rfl,rfl,fun h=>h⟩,trivial⟩ rfl rfl rfl rfl ?_)|refine wF 98 (pu hjn ?_)|(refine wF 39 ?_;refine CallG.mo [0,1,2,3,4,5,6,7] (report_c p s.D.length s.G i 2 (by omega)) rfl (okH_op rfl rfl rfl) rfl rfl rfl ⟨VLe.refl _,VLe.refl _,VLe.refl _,trivial⟩ ⟨⟨rfl,_,rfl,rfl,fun h=>h⟩,FitP.op rfl rfl trivial⟩ rfl rfl (wr:=[(0,some (anB p 3 s.D.length 11 (s.G.length+1))),(6,none),(11,dgB 11 (s.G++[(i,2)]))]) (by show [_,_,_]=_;rw[renO_op];rfl) ?_))|refine y3 ?_|refine y7 ?_ ?_|refine y4 ?_|(refine y9 ?_ ?_<;>intro h)|exact y5|fail)
    all_goals try omega
    rw[show (St.rep (s.sc i sc) i 2).G.length=s.G.length+1 from by simp[St.rep,St.sc]];refine CutR.at [0,1,2,3,4,5,6,7,8,9,3,4,11,12] rfl rfl ⟨VLe.refl _,VLe.refl _,VLe.refl _,VLe.refl _,trivial⟩ ⟨rfl,rfl,rfl,rfl,MemP.op rfl (MemP.op rfl trivial)⟩ ?_
    (unfold dcB dgB;generalize List.flatMap dcC _=cd;generalize List.flatMap dgC _=cg;cases cd<;>cases cg<;>rfl)
   ·rw[if_pos ‹(p.getD i dN).op=10›,if_pos rfl] at hhd
    cases hhd
    repeat'(first|exact y0|refine y1 ?_|refine y2 ?_ ?_|(refine y8 ?_ ?_<;>intro h<;>try exact y6)|(refine wC ?_;first|(refine wF 62 ?_;refine CallG.mv [0] 0 hpa rfl rfl ⟨VLe.refl _,VLe.of_eq (congrArg nI (by push_cast;rfl)),trivial⟩ rfl rfl (fun φ w b=>BlAt.view 1 rfl) rfl ⟨⟨rfl,_,rfl,rfl,fun h=>h⟩,trivial⟩ rfl rfl rfl rfl ?_)|refine wF 98 (pu hjn ?_))|refine y3 ?_|refine y7 ?_ ?_|refine y4 ?_|(refine y9 ?_ ?_<;>intro h)|exact y5|fail)
    all_goals try omega
    refine CutR.at [0,1,2,3,4,5,6,7,8,9,3,4,6,7] rfl rfl ⟨VLe.refl _,VLe.refl _,VLe.refl _,VLe.refl _,trivial⟩ ⟨rfl,rfl,rfl,rfl,MemP.op rfl (MemP.op rfl trivial)⟩ ?_
    (unfold dcB dgB;generalize List.flatMap dcC _=cd;generalize List.flatMap dgC _=cg;cases cd<;>cases cg<;>rfl)
  ·rw[if_neg (by omega),if_pos (by omega)] at hhd
   cases hhd;refine CutR.at [0,1,2,3,4,5,6,7,8,9,3,4,6,7] rfl rfl ⟨VLe.refl _,VLe.refl _,VLe.refl _,VLe.refl _,trivial⟩ ⟨rfl,rfl,rfl,rfl,MemP.op rfl (MemP.op rfl trivial)⟩ ?_
   (unfold dcB dgB;generalize List.flatMap dcC _=cd;generalize List.flatMap dgC _=cg;cases cd<;>cases cg<;>rfl)
  ·rw[if_neg (by omega),if_pos (by omega)] at hhd
   cases hhd;refine CutR.at [0,1,2,3,4,5,6,7,8,9,3,4,6,7] rfl rfl ⟨VLe.refl _,VLe.refl _,VLe.refl _,VLe.refl _,trivial⟩ ⟨rfl,rfl,rfl,rfl,MemP.op rfl (MemP.op rfl trivial)⟩ ?_
   (unfold dcB dgB;generalize List.flatMap dcC _=cd;generalize List.flatMap dgC _=cg;cases cd<;>cases cg<;>rfl)
  ·rw[if_neg (by omega),if_pos (by omega)] at hhd
   cases hhd;refine CutR.at [0,1,2,3,4,5,6,7,8,9,3,4,6,7] rfl rfl ⟨VLe.refl _,VLe.refl _,VLe.refl _,VLe.refl _,trivial⟩ ⟨rfl,rfl,rfl,rfl,MemP.op rfl (MemP.op rfl trivial)⟩ ?_
   (unfold dcB dgB;generalize List.flatMap dcC _=cd;generalize List.flatMap dgC _=cg;cases cd<;>cases cg<;>rfl)
  ·cases jok
   ·rw[if_neg (by omega),if_neg (by omega),if_neg (by simp)] at hhd
    cases hhd
    repeat'(first|exact y0|refine y1 ?_|refine y2 ?_ ?_|(refine y8 ?_ ?_<;>intro h<;>try exact y6)|(refine wC ?_;first|(refine wF 62 ?_;refine CallG.mv [0] 0 hpa rfl rfl ⟨VLe.refl _,VLe.of_eq (congrArg nI (by push_cast;rfl)),trivial⟩ rfl rfl (fun φ w b=>BlAt.view 1 rfl) rfl ⟨⟨rfl,_,rfl,rfl,fun h=>h⟩,trivial⟩ rfl rfl rfl rfl ?_)|refine wF 98 (pu hjn ?_)|(refine wF 39 ?_;refine CallG.mo [0,1,2,3,4,5,6,7] (report_c p s.D.length s.G i 2 (by omega)) rfl (okH_op rfl rfl rfl) rfl rfl rfl ⟨VLe.refl _,VLe.refl _,VLe.refl _,trivial⟩ ⟨⟨rfl,_,rfl,rfl,fun h=>h⟩,FitP.op rfl rfl trivial⟩ rfl rfl (wr:=[(0,some (anB p 3 s.D.length 11 (s.G.length+1))),(6,none),(11,dgB 11 (s.G++[(i,2)]))]) (by show [_,_,_]=_;rw[renO_op];rfl) ?_))|refine y3 ?_|refine y7 ?_ ?_|refine y4 ?_|(refine y9 ?_ ?_<;>intro h)|exact y5|fail)
    all_goals try omega
    rw[show (St.rep (s.sc i sc) i 2).G.length=s.G.length+1 from by simp[St.rep,St.sc]];refine CutR.at [0,1,2,3,4,5,6,7,8,9,3,4,11,12] rfl rfl ⟨VLe.refl _,VLe.refl _,VLe.refl _,VLe.refl _,trivial⟩ ⟨rfl,rfl,rfl,rfl,MemP.op rfl (MemP.op rfl trivial)⟩ ?_
    (unfold dcB dgB;generalize List.flatMap dcC _=cd;generalize List.flatMap dgC _=cg;cases cd<;>cases cg<;>rfl)
   ·rw[if_neg (by omega),if_neg (by omega),if_pos rfl] at hhd
    have hf:=fmt_c jp (hjr rfl)
    repeat'(first|exact y0|refine y1 ?_|refine y2 ?_ ?_|(refine y8 ?_ ?_<;>intro h<;>try exact y6)|(refine wC ?_;first|(refine wF 62 ?_;refine CallG.mv [0] 0 hpa rfl rfl ⟨VLe.refl _,VLe.of_eq (congrArg nI (by push_cast;rfl)),trivial⟩ rfl rfl (fun φ w b=>BlAt.view 1 rfl) rfl ⟨⟨rfl,_,rfl,rfl,fun h=>h⟩,trivial⟩ rfl rfl rfl rfl ?_)|refine wF 98 (pu hjn ?_)|refine wF 100 (pu hf ?_)|(refine wF 99 ?_;refine CallG.mo [0,1,2,3,4,5,6,7] (declare_c p s.D s.F s.G i (fmtP jp) hi (by omega) (by omega)) rfl (okH_op (t:=[(5,some (mapB s.F)),(6,dgB 6 s.G)]) rfl rfl (okH_op rfl rfl rfl)) rfl rfl rfl ⟨VLe.refl _,VLe.refl _,VLe.refl _,trivial⟩ ⟨⟨rfl,_,rfl,rfl,fun h=>h⟩,FitP.op rfl rfl ⟨⟨rfl,_,rfl,rfl,fun h=>h⟩,FitP.op rfl rfl trivial⟩⟩ rfl rfl (wr:=[(0,some (anB p 11 (s.D.length+1) 13 (decG s.F s.G (fmtP jp) i).length)),(3,none),(6,none),(5,some (mapB (decF s.F (fmtP jp) i))),(11,dcB 11 (s.D++[⟨fmtP jp,(p.getD i dN).op,i⟩])),(13,dgB 13 (decG s.F s.G (fmtP jp) i))]) (by show [_,_,_,_,_,_]=_;rw[renO_op,renO_op];rfl) ?_))|refine y3 ?_|refine y7 ?_ ?_|refine y4 ?_|(refine y9 ?_ ?_<;>intro h)|exact y5|fail)
    all_goals try omega
    all_goals
     first
      |rw[if_pos (by omega)] at hhd
      |rw[if_neg (by omega)] at hhd
     cases hhd;rw[show (St.dec (s.sc i sc) i (fmtP jp) (p.getD i dN).op).D.length=s.D.length+1 from by simp[St.dec,St.sc]];refine CutR.at [0,1,2,3,4,5,6,7,8,9,11,12,13,14] rfl rfl ⟨VLe.refl _,VLe.refl _,VLe.refl _,VLe.refl _,trivial⟩ ⟨rfl,rfl,rfl,rfl,MemP.op rfl (MemP.op rfl trivial)⟩ ?_
     (unfold dcB dgB;generalize List.flatMap dcC _=cd;generalize List.flatMap dgC _=cg;cases cd<;>cases cg<;>rfl)
  ·have hbl:hasBl x.op=decide ((p.getD i dN).op=10∨(p.getD i dN).op=11∨(p.getD i dN).op=12∨(p.getD i dN).op=16∨(p.getD i dN).op=17):=by rw[hx];rfl
   cases hb:hasBl x.op
   ·rw[hb] at hbl
    have hbl:=of_decide_eq_false hbl.symm;simp only[Bool.false_eq_true,if_false]
    repeat'(first|refine Ex.cutS 21 107 14 [(0,.s (.ptr (some (0,0)))),(1,nI i),(7,.s (.ptr (some (9,0)))),(13,nI (i+1+k.size:Nat)),(83,bV false)] [(0,some (anB p 10 s1.D.length 12 s1.G.length)),(1,some (scB s1.S)),(5,some (mapB s1.F)),(9,some {cells:=ptC inner,ty:=92}),(10,dcB 10 s1.D),(12,dgB 12 s1.G)] rfl ?_ ?_|exact y0|refine y1 ?_|refine y2 ?_ ?_|(refine y8 ?_ ?_<;>intro h<;>try exact y6)|(refine wC ?_;first|(refine wF 101 ?_;refine CallG.mv [0] 0 hend rfl rfl ⟨VLe.refl _,VLe.refl _,trivial⟩ rfl rfl (fun φ w b=>BlAt.view 1 rfl) rfl ⟨⟨rfl,_,rfl,rfl,fun h=>h⟩,trivial⟩ rfl rfl rfl rfl ?_))|refine y3 ?_|refine y7 ?_ ?_|refine y4 ?_|(refine y9 ?_ ?_<;>intro h)|exact y5|fail)
    all_goals try omega
    ·refine CutR.at [0,1,2,3,4,5,6,7,8,9,10,11,12,13] rfl rfl ⟨VLe.refl _,VLe.refl _,VLe.refl _,VLe.refl _,VLe.refl _,trivial⟩ ⟨rfl,rfl,rfl,rfl,MemP.op rfl (MemP.op rfl trivial)⟩ ?_
     (unfold dcB dgB;generalize List.flatMap dcC _=cd;generalize List.flatMap dgC _=cg;cases cd<;>cases cg<;>rfl)
    ·refine⟨.inl rfl,_,[10,11,12,13],VLe.refl _,EndOK.by rfl ?_ rfl ?_ rfl rfl⟩
     ·exact⟨rfl,rfl,rfl,MemP.op rfl (MemP.op rfl trivial)⟩
     ·(unfold anL' dcB dgB;generalize List.flatMap dcC _=cd;generalize List.flatMap dgC _=cg;cases cd<;>cases cg<;>rfl)
   ·rw[hb] at hbl
    have hbl:=of_decide_eq_true hbl.symm;simp only[if_true];obtain⟨m,c',bl,hm4,hc',hblV,hblA,hks,hkc,hst,hdec⟩:=decl_blk ha hv hb;have hcs:=starts_len k (i+1);have hchn:=At.chain ha.2.2.1
    have hkid:(p.getD i dN).kids=((k.starts (i+1)).length:Nat):=by rw[hx,hcs];exact ha.2.1
    rw[hkc] at hcs;generalize k.starts (i+1)=cs at*;have hsz:=At.size_le (Nat.le_of_lt (At.lt ha)) ha;simp only[Fo.size] at hsz;have hch:=children_c p hp i (i+1+k.size) hi cs hkid hchn (by omega)
    have hk1:(cs.length:Int)-1=(m:Nat):=by omega
    repeat'(first|refine Ex.cutS 21 107 14 [(0,.s (.ptr (some (0,0)))),(1,nI i),(7,.s (.ptr (some (9,0)))),(13,nI (i+1+k.size:Nat)),(83,bV true)] [(0,some (anB p 10 s1.D.length 12 s1.G.length)),(1,some (scB s1.S)),(5,some (mapB s1.F)),(9,some {cells:=ptC inner,ty:=92}),(10,dcB 10 s1.D),(12,dgB 12 s1.G)] rfl ?_ ?_|exact y0|refine y1 ?_|refine y2 ?_ ?_|(refine y8 ?_ ?_<;>intro h<;>try exact y6)|(refine wC ?_;first|(refine wF 101 ?_;refine CallG.mv [0] 0 hend rfl rfl ⟨VLe.refl _,VLe.refl _,trivial⟩ rfl rfl (fun φ w b=>BlAt.view 1 rfl) rfl ⟨⟨rfl,_,rfl,rfl,fun h=>h⟩,trivial⟩ rfl rfl rfl rfl ?_)|(refine wF 102 ?_;refine CallG.mv [0] 0 hch rfl rfl ⟨VLe.refl _,VLe.refl _,trivial⟩ rfl rfl (fun φ w b=>BlAt.view 1 rfl) rfl ⟨⟨rfl,_,rfl,rfl,fun h=>h⟩,trivial⟩ rfl rfl rfl rfl ?_))|refine y3 ?_|refine y7 ?_ ?_|refine y4 ?_|(refine y9 ?_ ?_<;>intro h)|exact y5|fail)
    all_goals try omega
    all_goals try (refine CutR.at [0,1,2,3,4,5,6,7,8,9,10,11,12,13] rfl rfl ⟨VLe.refl _,VLe.refl _,VLe.refl _,VLe.refl _,VLe.refl _,trivial⟩ ⟨rfl,rfl,rfl,rfl,MemP.op rfl (MemP.op rfl trivial)⟩ ?_;(unfold dcB dgB;generalize List.flatMap dcC _=cd;generalize List.flatMap dgC _=cg;cases cd<;>cases cg<;>rfl))
    refine RegX.chunkN 4 rfl rfl ?_ (RegX.eqv 95 (congrArg nI hk1) rfl ?_)
    all_goals
     repeat'(first|exact y0|refine y1 ?_|refine y2 ?_ ?_|(refine y8 ?_ ?_<;>intro h<;>try exact y6)|refine y3 ?_|refine y7 ?_ ?_|refine y4 ?_|(refine y9 ?_ ?_<;>intro h)|exact y5|fail)
    all_goals try omega
    refine Ex.inv (σ:=Fo×Nat×St) (fun q=>[(15,nI q.2.1)]) (fun q=>[(0,some (anB p 10 q.2.2.D.length 12 q.2.2.G.length)),(1,some (scB q.2.2.S)),(5,some (mapB q.2.2.F)),(9,some {cells:=ptC inner,ty:=92}),(10,dcB 10 q.2.2.D),(12,dgB 12 q.2.2.G)])
     (fun q=>q.1.At p q.2.1∧q.1.V (List.replicate q.1.cnt (false,c'))∧(i+2≤q.2.1∧q.2.1+q.1.size=i+1+k.size)∧q.2.2.S.length=p.length∧q.2.2.D.length≤q.2.1∧q.2.2.G.length≤q.2.1∧declS false q.1 q.2.1 inner q.2.2=declS true k (i+1) inner s1) (fun q=>q.1.size) (bl,i+1+m+1,s1) rfl (fun _=>rfl) ?_ ?_ ?_ ?_
    ·refine⟨hblA,hblV,⟨by simp only;omega,by simp only;omega⟩,by simp only;omega,by simp only;omega,by simp only;omega,(hdec inner s1).symm⟩
    ·exact⟨VLe.of_eq (congrArg nI (by rw[hst];push_cast;rfl)),trivial⟩
    ·exact⟨rfl,rfl,rfl,rfl,SubP.op rfl (SubP.op rfl trivial)⟩
    ·rintro⟨t,j,st⟩ ⟨t1,t2,⟨t0,t3⟩,t4,t5,t6,t7⟩
     simp only at t0 t1 t2 t3 t4 t5 t6 t7 ⊢
     cases t with
     |nil=>
      simp only[Fo.size,Nat.add_zero] at t3;subst t3;simp only[declS] at t7;rw[←t7]
      repeat'(first|exact y0|refine y1 ?_|refine y2 ?_ ?_|(refine y8 ?_ ?_<;>intro h<;>try exact y6)|refine y3 ?_|refine y7 ?_ ?_|refine y4 ?_|(refine y9 ?_ ?_<;>intro h)|exact y5|fail)
      refine⟨.inl rfl,_,[10,11,12,13],VLe.refl _,EndOK.by rfl ?_ rfl ?_ rfl rfl⟩
      ·exact⟨rfl,rfl,rfl,MemP.op rfl (MemP.op rfl trivial)⟩
      ·(unfold anL' dcB dgB;generalize List.flatMap dcC _=cd;generalize List.flatMap dgC _=cg;cases cd<;>cases cg<;>rfl)
     |cons x' k' n'=>
      simp only[Fo.size] at t3
      have hr:declS false (.cons x' k' n') j inner st=declS false n' (j+1+k'.size) inner (declS false (.cons x' k' .nil) j inner st):=by simp only[declS]
      rw[hr] at t7;have hl:=declS_len false (.cons x' k' .nil) j inner st;simp only[Fo.size,Nat.add_zero] at hl;have hrec:=ih x' k' c' j inner st (by omega) hc' ⟨t1.1,t1.2.1,t1.2.2.1,trivial⟩ ⟨t2.1,t2.2.1,trivial⟩ t4 t5 t6;generalize declS false (.cons x' k' .nil) j inner st=st' at*
      have k2:okH 8 (anL p st)=true:=by (unfold anL dcB dgB;generalize List.flatMap dcC _=cd;generalize List.flatMap dgC _=cg;cases cd<;>cases cg<;>rfl)
      repeat'(first|exact y0|refine y1 ?_|refine y2 ?_ ?_|(refine y8 ?_ ?_<;>intro h<;>try exact y6)|(refine wC ?_;first|(refine wF 57 ?_;refine CallG.mo [0,1,2,10,11,5,12,13] hrec rfl k2 rfl rfl rfl ⟨VLe.refl _,VLe.refl _,VLe.refl _,trivial⟩ ⟨⟨rfl,_,rfl,rfl,fun h=>h⟩,⟨rfl,_,rfl,rfl,fun h=>h⟩,FitP.op rfl rfl ⟨⟨rfl,_,rfl,rfl,fun h=>h⟩,FitP.op rfl rfl trivial⟩⟩ rfl rfl (wr:=[(0,some (anB p 14 st'.D.length 16 st'.G.length)),(1,some (scB st'.S)),(10,none),(12,none),(5,some (mapB st'.F)),(14,dcB 14 st'.D),(16,dgB 16 st'.G)]) (by show [_,_,_,_,_,_,_]=_;rw[renO_op,renO_op];rfl) ?_))|refine y3 ?_|refine y7 ?_ ?_|refine y4 ?_|(refine y9 ?_ ?_<;>intro h)|exact y5|fail)
      all_goals try omega
      refine LoopR.move (n',j+1+k'.size,st') ⟨t1.2.2.2,t2.2.2,⟨by simp only;omega,by simp only;omega⟩,by simp only;omega,by simp only;omega,by simp only;omega,t7⟩ (by simp only[Fo.size];omega) [0,1,2,3,4,5,6,7,8,9,14,15,16,17] rfl ?_ ?_ ?_
      ·repeat' (first|exact VLe.refl _|exact VLe.any _|exact True.intro|refine⟨?_,?_⟩)
      ·exact⟨rfl,rfl,rfl,rfl,MemP.op rfl (MemP.op rfl trivial)⟩
      ·(unfold dcB dgB;generalize List.flatMap dcC _=cd;generalize List.flatMap dgC _=cg;cases cd<;>cases cg<;>rfl)
theorem decl_all (p:List Nd) (hp:p.length≤2048) (hw:wfN p):∀ N,DeclC p N
 |0=>fun x k c i sc s h=>absurd h (Nat.not_lt_zero _)
 |N+1=>decl_c p hp hw N (decl_all p hp hw N)
end Go.Proofs.YtphdhedhhlfepaaGreatDoor
