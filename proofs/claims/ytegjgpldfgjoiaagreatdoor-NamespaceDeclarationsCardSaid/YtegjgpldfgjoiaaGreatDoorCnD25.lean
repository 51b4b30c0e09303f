import Derived.Test.YtegjgpldfgjoiaaGreatDoorCnD21
set_option linter.all false
set_option maxHeartbeats 40000000
set_option maxRecDepth 100000
namespace Go.Proofs.YtegjgpldfgjoiaaGreatDoor
open Go Ab
abbrev stL (p:List Nd) (nD:Nat) (G:List (Nat×Nat)):Hp:=[(0,some (eA p 3 nD 6 G.length)),(6,bv 6 G)]
abbrev Hg (p:List Nd) (nD:Nat) (G:List (Nat×Nat)):Hp:=[(0,some (eA p 3 nD 8 G.length)),(6,none),(8,bv 8 G)]
def GV (p:List Nd) (nD N:Nat):Prop:=∀ (b:Nd) (k:Fo) (i:Nat) (lp:Bool) (G:List (Nat×Nat)),k.size<N->(Fo.cons b k .nil).At p i->(Fo.cons b k .nil).V [(true,83)]->G.length+2*k.size<=1000000000->
 FQ 229 [.s (.ptr (some (0,0))),nI i,bV lp] 8 (stL p nD G) .any 10 (Hg p nD (aK false k (i+1) lp true G))
theorem Hf (p:List Nd) (hp:p.length<=2048) (nD N:Nat) (ih:GV p nD N):GV p nD (N+1):=by
 intro b k i lp G hN ha hv hG;have hi:=At.lt ha;have hx:=At.get ha;have hsz:=At.size_le (Z1k hi) ha;simp only[Fo.size] at hsz;have hcs:=bH k (i+1)
 have hkid:(p.getD i dN).kids=((k.starts (i+1)).length:Nat):=by rw[hx,hcs];exact ha.2.1
 have hcc:=Fo.cnt_le k;have hch:=fh p hp i (i+1+k.size) hi (k.starts (i+1)) hkid (At.chain ha.2.2.1) aa;have hcs0:(k.starts (i+1)).drop 0=k.starts (i+1):=rfl;have hkA:=ha.2.2.1;have hkV:=hv.2.1;generalize hcsd:k.starts (i+1)=cs at hcs hkid hch;refine wW Tryz.func229 ?_
 repeat'(first|refine Cy [0,1,2,3,4,5,6,7,6,7] 68 [(0,.s (.ptr (some (0,0)))),(2,bV lp),(6,bV true),(13,.s (gb cs)),(14,nI cs.length),(15,nI 0)] [(0,some (eA p 3 nD 8 (G).length)),(8,bv 8 (G))] rfl rfl ⟨ah _,ah _,ah _,ah _,ah _,ah _,trivial⟩ ⟨rfl,bN rfl trivial⟩ (by unfold bv;generalize List.flatMap bX _=cg;cases cg<;>rfl) (Ex.block ?_)|refine y1 ?_|refine y2 ?_ ?_|refine wX (g7 [0] 0 hch ?_)|refine y3 ?_|exact y5|fail)
 refine cD (σ:=Fo×Nat×Nat×Bool×List (Nat×Nat)) (λq=>[(6,bV q.2.2.2.1),(15,nI q.2.2.1)]) (λq=>[(0,some (eA p 3 nD 8 (q.2.2.2.2).length)),(8,bv 8 (q.2.2.2.2))])
  (λq=>q.1.At p q.2.1/\q.1.V (List.replicate q.1.cnt (false,83))/\(i+1<=q.2.1/\q.2.1+q.1.size=i+1+k.size)/\q.2.2.1+q.1.cnt=cs.length/\cs.drop q.2.2.1=q.1.starts q.2.1/\q.2.2.2.2.length+2*q.1.size<=1000000000/\aK false q.1 q.2.1 lp q.2.2.2.1 q.2.2.2.2=aK false k (i+1) lp true G) (λq=>q.1.size) (k,i+1,0,true,G) rfl (λ_=>rfl) ?_ ?_ ?_ ?_
 ·grind
 ·exact bc
 ·exact⟨rfl,iN rfl trivial⟩
 ·rintro⟨t,cur,idx,r,Gt⟩ ⟨t1,t2,⟨t0,t3⟩,t4,t5,t6,t7⟩
  simp only at t0 t1 t2 t3 t4 t5 t6 t7 |-
  cases t with
  |nil=>
   simp only[Fo.cnt,Z0p] at t4;simp only[aK] at t7;rw[<-t7]
   repeat'(first|refine yA ?_|refine y4 λh=>?_|fail)
   refine⟨.inr rfl,.tup [],[8,9],cT _,hY rfl ?_ rfl ?_ rfl rfl⟩
   ·exact⟨rfl,bN rfl trivial⟩
   ·exact bI rfl rfl rfl
  |cons x ks n=>
   simp only[Fo.size] at t3 t6;simp only[Fo.cnt] at t4
   have hcur:cs.getD idx 0=cur:=by
    have:(cs.drop idx)[0]? =some cur:=by rw[t5];rfl
    grind
   have hnext:cs.drop (idx+1)=n.starts (cur+1+ks.size):=by
    rw[<-Z5c,t5];rfl
   have hcl:=At.lt t1;have hcx:=At.get t1;rw[show aK false (.cons x ks n) cur lp r Gt=aK false n (cur+1+ks.size) lp (r&& !decide (x.op=33\/x.op=34\/x.op=35)) (if x.op=31 then aK true ks (cur+1) lp true (bU x.op cur lp (dI cur r Gt)) else if x.op=32 then aK true ks (cur+1) true true (bU x.op cur lp (dI cur r Gt)) else bU x.op cur lp (dI cur r Gt)) from rfl] at t7;have hG1:=za cur r Gt;have hG1d:dI cur r Gt=if r then Gt else Gt++[(cur,10)]:=rfl;have hG1d':dI cur r Gt=dI cur r Gt:=rfl;generalize hG1e:dI cur r Gt=G1 at hG1 hG1d t7;rw[hG1e] at hG1d'
   repeat'(first|refine Ex.cutC 20 68 10 [(0,.s (.ptr (some (0,0)))),(2,bV lp),(6,bV r),(8,nI cur),(13,.s (gb cs)),(14,nI cs.length),(15,nI idx)] [(0,some (eA p 3 nD 8 (G1).length)),(8,bv 8 (G1))] rfl ?_ ?_|refine Ex.cutBI 2 68 10 [(0,.s (.ptr (some (0,0)))),(2,bV lp),(6,bV (r&& !decide (x.op=33\/x.op=34\/x.op=35))),(13,.s (gb cs)),(14,nI cs.length),(15,nI idx)] [(0,some (eA p 3 nD 8 (if x.op=31 then aK true ks (cur+1) lp true (bU x.op cur lp G1) else if x.op=32 then aK true ks (cur+1) true true (bU x.op cur lp G1) else bU x.op cur lp G1).length)),(8,bv 8 (if x.op=31 then aK true ks (cur+1) lp true (bU x.op cur lp G1) else if x.op=32 then aK true ks (cur+1) true true (bU x.op cur lp G1) else bU x.op cur lp G1))] rfl ?_ ?_|refine y1 ?_|refine y2 ?_ ?_|refine y4 λh=>?_|refine y3 ?_|exact y5|fail)
   ·have hr:r=false:=by
     grind
    subst hr;subst hG1d
    repeat'(first|refine yA ?_|(refine wX ?_;refine ot [0,1,2,3,4,5,8,9] (cL p nD Gt cur 10 aa) rfl (bI rfl rfl rfl) rfl rfl rfl ⟨ah _,bp (congrArg nI (by rw[hcur])),ah _,trivial⟩ mF rfl rfl (wr:=[(0,some (eA p 3 nD 10 (Gt.length+1))),(8,none),(10,bv 10 (Gt++[(cur,10)]))]) (by show [_,_,_]=_;rw[aP];rfl) ?_)|fail)
    rw[show (if false=true then Gt else Gt++[(cur,10)]).length=Gt.length+1 from by simp];refine fu [0,1,2,3,4,5,6,7,10,11] rfl rfl ⟨ah _,ah _,ah _,bp (congrArg nI ae),ah _,ah _,ah _,trivial⟩ ⟨rfl,bN rfl trivial⟩ ?_
    (unfold bv;generalize List.flatMap bX _=cg;cases cg<;>rfl)
   ·have hr:r=true:=by
     grind
    subst hr;subst hG1d;refine fu [0,1,2,3,4,5,6,7,8,9] rfl rfl ⟨ah _,ah _,ah _,bp (congrArg nI ae),ah _,ah _,ah _,trivial⟩ ⟨rfl,bN rfl trivial⟩ ?_
    (unfold bv;generalize List.flatMap bX _=cg;cases cg<;>rfl)
   ·have ho:x.op=33:=ae
    rw[if_neg aa,if_neg aa,decide_eq_true aa,Z2z,Z4f];unfold bU;rw[if_neg aa];refine fu [0,1,2,3,4,5,6,7,8,9] rfl rfl ⟨ah _,ah _,ah _,ah _,ah _,ah _,trivial⟩ ⟨rfl,bN rfl trivial⟩ ?_
    (unfold bv;generalize List.flatMap bX _=cg;cases cg<;>rfl)
   ·have ho:x.op=34:=ae
    have hlp:lp=false:=by
     grind
    subst hlp;rw[if_neg aa,if_neg aa,decide_eq_true aa,Z2z,Z4f];unfold bU;rw[if_pos ⟨aa,rfl⟩,Z03,Z0n]
    repeat'(first|refine yA ?_|(refine wX ?_;refine ot [0,1,2,3,4,5,8,9] (cL p nD G1 cur 8 aa) rfl (bI rfl rfl rfl) rfl rfl rfl bc mF rfl rfl (wr:=[(0,some (eA p 3 nD 10 (G1.length+1))),(8,none),(10,bv 10 (G1++[(cur,8)]))]) (by show [_,_,_]=_;rw[aP];rfl) ?_)|fail)
    refine fu [0,1,2,3,4,5,6,7,10,11] rfl rfl ⟨ah _,ah _,ah _,ah _,ah _,ah _,trivial⟩ ⟨rfl,bN rfl trivial⟩ ?_
    (unfold bv;generalize List.flatMap bX _=cg;cases cg<;>rfl)
   ·have ho:x.op=34:=ae
    have hlp:lp=true:=by
     grind
    subst hlp;rw[if_neg aa,if_neg aa,decide_eq_true aa,Z2z,Z4f];unfold bU;rw[if_neg av];refine fu [0,1,2,3,4,5,6,7,8,9] rfl rfl ⟨ah _,ah _,ah _,ah _,ah _,ah _,trivial⟩ ⟨rfl,bN rfl trivial⟩ ?_
    (unfold bv;generalize List.flatMap bX _=cg;cases cg<;>rfl)
   ·have ho:x.op=35:=ae
    have hlp:lp=false:=by
     grind
    subst hlp;rw[if_neg aa,if_neg aa,decide_eq_true aa,Z2z,Z4f];unfold bU;rw[if_pos ⟨aa,rfl⟩,Z03,Z0n]
    repeat'(first|refine yA ?_|(refine wX ?_;refine ot [0,1,2,3,4,5,8,9] (cL p nD G1 cur 8 aa) rfl (bI rfl rfl rfl) rfl rfl rfl bc mF rfl rfl (wr:=[(0,some (eA p 3 nD 10 (G1.length+1))),(8,none),(10,bv 10 (G1++[(cur,8)]))]) (by show [_,_,_]=_;rw[aP];rfl) ?_)|fail)
    refine fu [0,1,2,3,4,5,6,7,10,11] rfl rfl ⟨ah _,ah _,ah _,ah _,ah _,ah _,trivial⟩ ⟨rfl,bN rfl trivial⟩ ?_
    (unfold bv;generalize List.flatMap bX _=cg;cases cg<;>rfl)
   ·have ho:x.op=35:=ae
    have hlp:lp=true:=by
     grind
    subst hlp;rw[if_neg aa,if_neg aa,decide_eq_true aa,Z2z,Z4f];unfold bU;rw[if_neg av];refine fu [0,1,2,3,4,5,6,7,8,9] rfl rfl ⟨ah _,ah _,ah _,ah _,ah _,ah _,trivial⟩ ⟨rfl,bN rfl trivial⟩ ?_
    (unfold bv;generalize List.flatMap bX _=cg;cases cg<;>rfl)
   ·have ho:x.op=31:=ae
    obtain⟨e,ke,rest,rfl,he,hrV,hr1,hr32⟩:=rq t2 aa;have hcs':=bH (.cons e ke rest) (cur+1)
    have hkid':(p.getD cur dN).kids=(((Fo.cons e ke rest).starts (cur+1)).length:Nat):=by rw[hcx,hcs'];exact t1.2.1
    have hcc':=Fo.cnt_le (.cons e ke rest);have hch':=fh p hp cur (cur+1+(Fo.cons e ke rest).size) hcl _ hkid' (At.chain t1.2.2.1) aa;have hd1:((Fo.cons e ke rest).starts (cur+1)).drop 1=rest.starts (cur+1+1+ke.size):=rfl;have hrA:=t1.2.2.1.2.2.2;simp only[Fo.cnt,Fo.size] at hcs' hcc' t3 t6;generalize (Fo.cons e ke rest).starts (cur+1)=cs' at*
    have hst:∀ (m:Bool) (lq:Bool) (r:Bool) (G:List (Nat×Nat)),aK true (.cons e ke rest) (cur+1) lq r G=aK true rest (cur+1+1+ke.size) lq r G:=λm lq r G=>by simp only[aK,if_neg he]
    rw[hst true,hst true] at t7;rw[hst true,hst true]
    have hG2:bU x.op cur lp G1=G1:=by unfold bU;rw[if_neg aa]
    rw[hG2] at t7 |-;rw[decide_eq_false aa,Z2f,Z3m] at*;rw[if_pos ho] at t7 |-
    repeat'(first|refine yA ?_|refine y2 ?_ ?_|(refine wX ?_;refine Ic [0] 0 hch' rfl rfl bc rfl rfl (λφ w b=>Zbv 1 rfl) rfl mF rfl rfl rfl rfl ?_)|exact y5|fail)
    refine cD (σ:=Fo×Nat×Nat×List (Nat×Nat)) (λq=>[(49,nI q.2.2.1)]) (λq=>[(0,some (eA p 3 nD 8 (q.2.2.2).length)),(8,bv 8 (q.2.2.2))])
     (λq=>q.1.At p q.2.1/\q.1.V (List.replicate q.1.cnt (true,83))/\(cur+1+1+ke.size<=q.2.1/\q.2.1+q.1.size=cur+1+(1+ke.size+rest.size))/\q.2.2.1+q.1.cnt=rest.cnt/\cs'.drop (1+q.2.2.1)=q.1.starts q.2.1/\q.2.2.2.length+2*q.1.size<=1000000000/\aK true q.1 q.2.1 lp true q.2.2.2=aK true rest (cur+1+1+ke.size) lp true G1) (λq=>q.1.size) (rest,cur+1+1+ke.size,0,G1) rfl (λ_=>rfl) ?_ ?_ ?_ ?_
    ·grind
    ·exact bc
    ·exact⟨rfl,iN rfl trivial⟩
    ·rintro⟨u,cu,iu,Gu⟩ ⟨u1,u2,⟨u0,u3⟩,u4,u5,u6,u7⟩
     simp only at u0 u1 u2 u3 u4 u5 u6 u7 |-
     cases u with
     |nil=>
      simp only[Fo.cnt,Z0p] at u4;simp only[aK] at u7;rw[<-u7]
      repeat'(first|refine yA ?_|refine y4 λh=>?_|fail)
      refine fu [0,1,2,3,4,5,6,7,8,9] rfl rfl ⟨ah _,ah _,ah _,ah _,ah _,ah _,trivial⟩ ⟨rfl,bN rfl trivial⟩ ?_
      (unfold bv;generalize List.flatMap bX _=cg;cases cg<;>rfl)
     |cons b' bl' n'=>
      simp only[Fo.size] at u3 u6;simp only[Fo.cnt] at u4
      have hbi:cs'.getD (1+iu) 0=cu:=by
       have:(cs'.drop (1+iu))[0]? =some cu:=by rw[u5];rfl
       grind
      have hnx:cs'.drop (1+(iu+1))=n'.starts (cu+1+bl'.size):=by
       rw[show 1+(iu+1)=1+iu+1 by omega,<-Z5c,u5];rfl
      have hb4:b'.op=4:=u2.1.1;rw[show aK true (.cons b' bl' n') cu lp true Gu=aK true n' (cu+1+bl'.size) lp true (aK false bl' (cu+1) lp true Gu) from by simp only[aK,if_pos hb4]] at u7;have hrec:=ih b' bl' cu lp Gu aa ⟨u1.1,u1.2.1,u1.2.2.1,trivial⟩ ⟨u2.1,u2.2.1,trivial⟩ aa;have hln:=ek false bl' (cu+1) lp true Gu;generalize aK false bl' (cu+1) lp true Gu=G3 at*
      repeat'(first|refine yA ?_|refine y2 ?_ ?_|refine y4 λh=>?_|(refine wX ?_;refine ot [0,1,2,3,4,5,8,9] hrec rfl (bI rfl rfl rfl) rfl rfl rfl ⟨ah _,bp (congrArg nI (by rw[hbi])),ah _,trivial⟩ mF rfl rfl (wr:=[(0,some (eA p 3 nD 10 G3.length)),(8,none),(10,bv 10 G3)]) (by show [_,_,_]=_;rw[aP];rfl) ?_)|exact y5|fail)
      refine fq (n',cu+1+bl'.size,iu+1,G3) ⟨u1.2.2.2,u2.2.2,⟨ae,ae⟩,ae,hnx,ae,u7⟩ (by simp only[Fo.size];omega) [0,1,2,3,4,5,6,7,10,11] rfl ?_ ?_ ?_
      ·repeat'(first|exact ah _|exact cT _|exact Z0o|refine⟨?_,?_⟩)
      ·exact⟨rfl,bN rfl trivial⟩
      ·(unfold bv;generalize List.flatMap bX _=cg;cases cg<;>rfl)
   ·have ho:x.op=32:=ae
    obtain⟨e,ke,rest,rfl,he,hrV,hr1,hr32⟩:=rq t2 aa;have hcs':=bH (.cons e ke rest) (cur+1)
    have hkid':(p.getD cur dN).kids=(((Fo.cons e ke rest).starts (cur+1)).length:Nat):=by rw[hcx,hcs'];exact t1.2.1
    have hcc':=Fo.cnt_le (.cons e ke rest);have hch':=fh p hp cur (cur+1+(Fo.cons e ke rest).size) hcl _ hkid' (At.chain t1.2.2.1) aa;have hd1:((Fo.cons e ke rest).starts (cur+1)).drop 1=rest.starts (cur+1+1+ke.size):=rfl;have hrA:=t1.2.2.1.2.2.2;simp only[Fo.cnt,Fo.size] at hcs' hcc' t3 t6;generalize (Fo.cons e ke rest).starts (cur+1)=cs' at*
    have hst:∀ (m:Bool) (lq:Bool) (r:Bool) (G:List (Nat×Nat)),aK true (.cons e ke rest) (cur+1) lq r G=aK true rest (cur+1+1+ke.size) lq r G:=λm lq r G=>by simp only[aK,if_neg he]
    rw[hst true,hst true] at t7;rw[hst true,hst true]
    have hG2:bU x.op cur lp G1=G1:=by unfold bU;rw[if_neg aa]
    rw[hG2] at t7 |-;rw[decide_eq_false aa,Z2f,Z3m] at*;rw[if_neg aa,if_pos ho] at t7 |-;have hc1:=hr32 ho
    cases rest with
    |nil=>exact absurd hr1 ac
    |cons b' bl' n'=>
     cases n' with
     |cons b2 bl2 n2=>simp only[Fo.cnt] at hc1;omega
     |nil=>
      have hb4:b'.op=4:=hrV.1.1
      have hbi:cs'.getD 1 0=cur+1+1+ke.size:=by
       have:(cs'.drop 1)[0]? =some (cur+1+1+ke.size):=by rw[hd1];rfl
       grind
      simp only[Fo.size,Z0p] at t3 t6;rw[show aK true (.cons b' bl' .nil) (cur+1+1+ke.size) true true G1=aK false bl' (cur+1+1+ke.size+1) true true G1 from by simp only[aK,if_pos hb4]] at t7 |-;have hrec:=ih b' bl' (cur+1+1+ke.size) true G1 aa hrA hrV aa;generalize aK false bl' (cur+1+1+ke.size+1) true true G1=G3 at*;simp only[Fo.cnt] at hcs'
      repeat'(first|refine yA ?_|refine y2 ?_ ?_|(refine wX ?_;refine Ic [0] 0 hch' rfl rfl bc rfl rfl (λφ w b=>Zbv 1 rfl) rfl mF rfl rfl rfl rfl ?_)|(refine wX ?_;refine ot [0,1,2,3,4,5,8,9] hrec rfl (bI rfl rfl rfl) rfl rfl rfl ⟨ah _,bp (congrArg nI (by rw[hbi])),ah _,trivial⟩ mF rfl rfl (wr:=[(0,some (eA p 3 nD 10 G3.length)),(8,none),(10,bv 10 G3)]) (by show [_,_,_]=_;rw[aP];rfl) ?_)|exact y5|fail)
      refine fu [0,1,2,3,4,5,6,7,10,11] rfl rfl ⟨ah _,ah _,ah _,ah _,ah _,ah _,trivial⟩ ⟨rfl,bN rfl trivial⟩ ?_
      (unfold bv;generalize List.flatMap bX _=cg;cases cg<;>rfl)
   ·rw[<-hcx] at t7 |-
    rw[if_neg aa,if_neg aa,decide_eq_false aa,Z2f,Z3m];unfold bU;rw[if_neg aa];refine fu [0,1,2,3,4,5,6,7,8,9] rfl rfl ⟨ah _,ah _,ah _,ah _,ah _,ah _,trivial⟩ ⟨rfl,bN rfl trivial⟩ ?_
    (unfold bv;generalize List.flatMap bX _=cg;cases cg<;>rfl)
   ·have hln:(if x.op=31 then aK true ks (cur+1) lp true (bU x.op cur lp G1) else if x.op=32 then aK true ks (cur+1) true true (bU x.op cur lp G1) else bU x.op cur lp G1).length+2*n.size<=1000000000:=by
     grind [vN,ek]
    generalize (if x.op=31 then aK true ks (cur+1) lp true (bU x.op cur lp G1) else if x.op=32 then aK true ks (cur+1) true true (bU x.op cur lp G1) else bU x.op cur lp G1)=G4 at*;refine dT (n,cur+1+ks.size,idx+1,(r&& !decide (x.op=33\/x.op=34\/x.op=35)),G4) ⟨t1.2.2.2,t2.2.2,⟨ae,ae⟩,ae,hnext,hln,t7⟩ (by simp only[Fo.size];omega) rfl bc ⟨rfl,iN rfl trivial⟩ rfl ?_ ac;exact bI rfl rfl rfl
theorem vM (p:List Nd) (hp:p.length<=2048) (nD:Nat):∀ N,GV p nD N
 |0=>λb k i lp G h=>absurd h (Z1m _)
 |N+1=>Hf p hp nD N (vM p hp nD N)
theorem pz {p:List Nd} {c':Int}:∀ (ls:List Int) (t:Fo) (i:Nat),(ls.all fY)=true->t.V (ls.map (λc=>(false,c))++[(true,c')])->t.At p i->
 ∃ b bl,(Fo.cons b bl .nil).At p (i+ls.length)/\(Fo.cons b bl .nil).V [(true,c')]/\t.size=ls.length+1+bl.size
 |[],t,i,_,h,ha=>by
  grind [Fo.size,kJ,iO]
 |c::ls,t,i,hl,h,ha=>by
  simp only[Z1b,Z07] at hl;obtain⟨y,n,rfl,h1,h2⟩:=fk hl.1 h;obtain⟨b,bl,g1,g2,g3⟩:=pz ls n (i+1) hl.2 h1 (by simpa [Fo.size] using ha.2.2.2)
  grind [Fo.size]
def gN (p:List Nd) (lim:Int):Nat->Nat->List (Nat×Nat)->List (Nat×Nat)
 |0,_,G=>G
 |c+1,j,G=>gN p lim c (j+1) (if (p.getD j dN).op=7/\lim<=ai p j then G++[(j,9)] else G)
theorem og (p:List Nd) (lim:Int):∀ (c j:Nat) (G:List (Nat×Nat)),(gN p lim c j G).length<=G.length+c
 |0,_,_=>Z02 _
 |c+1,j,G=>by
  simp only[gN];have:=og p lim c (j+1) (if (p.getD j dN).op=7/\lim<=ai p j then G++[(j,9)] else G)
  grind
def l6 (p:List Nd) (bl:Fo) (i:Nat) (G:List (Nat×Nat)):List (Nat×Nat):=aK false bl (i+6) false true (gN p (ai p (i+2)) (bl.size+1) (i+5) G)
theorem HH (p:List Nd) (hp:p.length<=2048) (nD:Nat) (i:Nat) (b:Nd) (bl:Fo) (G:List (Nat×Nat)) (hend0:Ends p (i+6+bl.size) 1 i) (ha:(Fo.cons b bl .nil).At p (i+5)) (hv:(Fo.cons b bl .nil).V [(true,83)]) (hG:G.length+4*2048<=1000000000):
 FQ 179 [.s (.ptr (some (0,0))),nI i] 8 (stL p nD G) .any 10 (Hg p nD (l6 p bl i G)):=by
 have hi5:=At.lt ha;have hsz:=At.size_le (Z1k hi5) ha;simp only[Fo.size] at hsz;have hend:=Bd p hp i (i+6+bl.size) hend0;have hal:=og p (ai p (i+2)) (bl.size+1) (i+5) G;have hst:=vM p hp nD (bl.size+1) b bl (i+5) false (gN p (ai p (i+2)) (bl.size+1) (i+5) G) (Z1t _) ha hv aa;unfold l6;generalize hA:gN p (ai p (i+2)) (bl.size+1) (i+5) G=A at*;refine wW Tryz.func179 ?_
 repeat'(first|refine Cy [0,1,2,3,4,5,6,7,6,7] 52 [(0,.s (.ptr (some (0,0)))),(1,nI i),(4,nI (i+6+bl.size:Nat)),(5,nI (i+5:Nat))] [(0,some (eA p 3 nD 8 (G).length)),(8,bv 8 (G))] rfl rfl ⟨ah _,ah _,ah _,bp (congrArg nI (by push_cast;rfl)),trivial⟩ ⟨rfl,bN rfl trivial⟩ (by unfold bv;generalize List.flatMap bX _=cg;cases cg<;>rfl) (Ex.block ?_)|refine y1 ?_|refine y2 ?_ ?_|refine wX (g7 [0] 0 hend ?_)|refine y3 ?_|exact y5|fail)
 refine cD (σ:=Nat×Nat×List (Nat×Nat)) (λq=>[(5,nI q.2.1)]) (λq=>[(0,some (eA p 3 nD 8 (q.2.2).length)),(8,bv 8 (q.2.2))])
  (λq=>q.1+q.2.1=i+6+bl.size/\i+5<=q.2.1/\q.2.2.length+q.1<=G.length+(bl.size+1)/\gN p (ai p (i+2)) q.1 q.2.1 q.2.2=A) (λq=>q.1) (bl.size+1,i+5,G) rfl (λ_=>rfl) ?_ ?_ ?_ ?_
 ·grind
 ·exact bc
 ·exact⟨rfl,iN rfl trivial⟩
 ·rintro⟨c,j,Gt⟩ ⟨t1,t2,t3,t4⟩
  simp only at t1 t2 t3 t4 |-
  cases c with
  |zero=>
   simp only[gN] at t4;subst t4
   repeat'(first|refine yA ?_|refine y2 ?_ ?_|refine y4 λh=>?_|(refine wX ?_;refine ot [0,1,2,3,4,5,8,9] hst rfl (bI rfl rfl rfl) rfl rfl rfl ⟨ah _,bp (congrArg nI (by push_cast;rfl)),ah _,trivial⟩ mF rfl rfl (wr:=[(0,some (eA p 3 nD 10 (aK false bl (i+5+1) false true Gt).length)),(8,none),(10,bv 10 (aK false bl (i+5+1) false true Gt))]) (by show [_,_,_]=_;rw[aP];rfl) ?_)|exact y5|fail)
   refine⟨.inr rfl,.tup [],[10,11],cT _,hY rfl ?_ rfl ?_ rfl rfl⟩
   ·exact⟨rfl,bN rfl trivial⟩
   ·exact bI rfl rfl rfl
  |succ c=>
   simp only[gN] at t4;by_cases hc:(p.getD j dN).op=7/\ai p (i+2)<=ai p j
   ·rw[if_pos hc] at t4
    obtain⟨hc1,hc2⟩:=hc;unfold ai at hc2
    repeat'(first|refine yA ?_|refine y2 ?_ ?_|(refine y4 λh=>?_;try(first|(exact absurd hc2 (by assumption))|exact y6))|(refine wX ?_;refine ot [0,1,2,3,4,5,8,9] (cL p nD Gt j 9 aa) rfl (bI rfl rfl rfl) rfl rfl rfl bc mF rfl rfl (wr:=[(0,some (eA p 3 nD 10 (Gt.length+1))),(8,none),(10,bv 10 (Gt++[(j,9)]))]) (by show [_,_,_]=_;rw[aP];rfl) ?_)|exact y5|fail)
    refine fq (c,j+1,Gt++[(j,9)]) ⟨ae,ae,ae,t4⟩ ae [0,1,2,3,4,5,6,7,10,11] rfl ?_ ?_ ?_
    ·repeat'(first|exact ah _|exact cT _|exact Z0o|refine⟨?_,?_⟩)
    ·rw[Z03,Z0n]
     exact⟨rfl,bN rfl trivial⟩
    ·(unfold bv;generalize List.flatMap bX _=cg;cases cg<;>rfl)
   ·rw[if_neg hc] at t4
    unfold ai at hc
    repeat'(first|refine yA ?_|refine y2 ?_ ?_|(refine y4 λh=>?_;try(first|(exfalso;exact hc ⟨by assumption,by assumption⟩)|exact y6))|exact y5|fail)
    all_goals
     refine dT (c,j+1,Gt) ⟨ae,ae,ae,t4⟩ ae rfl ⟨bp (congrArg nI ae),trivial⟩ ⟨rfl,iN rfl trivial⟩ rfl ?_ ac;exact bI rfl rfl rfl
