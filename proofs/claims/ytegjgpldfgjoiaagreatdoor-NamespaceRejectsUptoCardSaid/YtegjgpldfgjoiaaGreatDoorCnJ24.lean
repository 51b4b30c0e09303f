import Derived.Test.YtegjgpldfgjoiaaGreatDoorCnJ20
set_option linter.all false
set_option maxHeartbeats 40000000
set_option maxRecDepth 100000
namespace Go.Proofs.YtegjgpldfgjoiaaGreatDoor
open Go Ab
abbrev stL (p:List Nd) (nD:Nat) (G:List (Nat×Nat)):Hp:=[(0,some (fJ p 3 nD 6 G.length)),(6,bM 6 G)]
abbrev Lw (p:List Nd) (nD:Nat) (G:List (Nat×Nat)):Hp:=[(0,some (fJ p 3 nD 8 G.length)),(6,none),(8,bM 8 G)]
def K9 (p:List Nd) (nD N:Nat):Prop:=∀ (b:Nd) (k:Fo) (i:Nat) (lp:Bool) (G:List (Nat×Nat)),k.size<N->(Fo.cons b k .nil).At p i->(Fo.cons b k .nil).V [(true,83)]->G.length+2*k.size<=1000000000->
 FQ 229 [.s (.ptr (some (0,0))),nI i,bV lp] 8 (stL p nD G) .any 10 (Lw p nD (aT false k (i+1) lp true G))
theorem Lv (p:List Nd) (hp:p.length<=2048) (nD N:Nat) (ih:K9 p nD N):K9 p nD (N+1):=by
 intro b k i lp G hN ha hv hG;have hi:=At.lt ha;have hx:=At.get ha;have hsz:=At.size_le (Z1k hi) ha;simp only[Fo.size] at hsz;have hcs:=bE k (i+1)
 have hkid:(p.getD i dN).kids=((k.starts (i+1)).length:Nat):=by rw[hx,hcs];exact ha.2.1
 have hcc:=Fo.cnt_le k;have hch:=gx p hp i (i+1+k.size) hi (k.starts (i+1)) hkid (At.chain ha.2.2.1) aa;have hcs0:(k.starts (i+1)).drop 0=k.starts (i+1):=rfl;have hkA:=ha.2.2.1;have hkV:=hv.2.1;generalize hcsd:k.starts (i+1)=cs at hcs hkid hch;refine wW Tryz.func229 ?_
 repeat'(first|refine my [0,1,2,3,4,5,6,7,6,7] 68 [(0,.s (.ptr (some (0,0)))),(2,bV lp),(6,bV true),(13,.s (eQ cs)),(14,nI cs.length),(15,nI 0)] [(0,some (fJ p 3 nD 8 (G).length)),(8,bM 8 (G))] rfl rfl ⟨ah _,ah _,ah _,ah _,ah _,ah _,trivial⟩ ⟨rfl,bh rfl trivial⟩ (by unfold bM;generalize List.flatMap cv _=cg;cases cg<;>rfl) (Ex.block ?_)|refine y1 ?_|refine y2 ?_ ?_|refine wX (ji [0] 0 hch ?_)|refine y3 ?_|exact y5|fail)
 refine cy (σ:=Fo×Nat×Nat×Bool×List (Nat×Nat)) (λq=>[(6,bV q.2.2.2.1),(15,nI q.2.2.1)]) (λq=>[(0,some (fJ p 3 nD 8 (q.2.2.2.2).length)),(8,bM 8 (q.2.2.2.2))])
  (λq=>q.1.At p q.2.1/\q.1.V (List.replicate q.1.cnt (false,83))/\(i+1<=q.2.1/\q.2.1+q.1.size=i+1+k.size)/\q.2.2.1+q.1.cnt=cs.length/\cs.drop q.2.2.1=q.1.starts q.2.1/\q.2.2.2.2.length+2*q.1.size<=1000000000/\aT false q.1 q.2.1 lp q.2.2.2.1 q.2.2.2.2=aT false k (i+1) lp true G) (λq=>q.1.size) (k,i+1,0,true,G) rfl (λ_=>rfl) ?_ ?_ ?_ ?_
 ·grind
 ·exact aP
 ·exact⟨rfl,fF rfl trivial⟩
 ·rintro⟨t,cur,idx,r,Gt⟩ ⟨t1,t2,⟨t0,t3⟩,t4,t5,t6,t7⟩
  simp only at t0 t1 t2 t3 t4 t5 t6 t7 |-
  cases t with
  |nil=>
   simp only[Fo.cnt,Z0p] at t4;simp only[aT] at t7;rw[<-t7]
   repeat'(first|refine yA ?_|refine y4 λh=>?_|fail)
   refine⟨.inr rfl,.tup [],[8,9],dd _,fY rfl ?_ rfl ?_ rfl rfl⟩
   ·exact⟨rfl,bh rfl trivial⟩
   ·exact bS rfl rfl rfl
  |cons x ks n=>
   simp only[Fo.size] at t3 t6;simp only[Fo.cnt] at t4
   have hcur:cs.getD idx 0=cur:=by
    have:(cs.drop idx)[0]? =some cur:=by rw[t5];rfl
    grind
   have hnext:cs.drop (idx+1)=n.starts (cur+1+ks.size):=by
    rw[<-Z5c,t5];rfl
   have hcl:=At.lt t1;have hcx:=At.get t1;rw[show aT false (.cons x ks n) cur lp r Gt=aT false n (cur+1+ks.size) lp (r&& !decide (x.op=33\/x.op=34\/x.op=35)) (if x.op=31 then aT true ks (cur+1) lp true (cx x.op cur lp (eA cur r Gt)) else if x.op=32 then aT true ks (cur+1) true true (cx x.op cur lp (eA cur r Gt)) else cx x.op cur lp (eA cur r Gt)) from rfl] at t7;have hG1:=C4 cur r Gt;have hG1d:eA cur r Gt=if r then Gt else Gt++[(cur,10)]:=rfl;have hG1d':eA cur r Gt=eA cur r Gt:=rfl;generalize hG1e:eA cur r Gt=G1 at hG1 hG1d t7;rw[hG1e] at hG1d'
   repeat'(first|refine Ex.cutC 20 68 10 [(0,.s (.ptr (some (0,0)))),(2,bV lp),(6,bV r),(8,nI cur),(13,.s (eQ cs)),(14,nI cs.length),(15,nI idx)] [(0,some (fJ p 3 nD 8 (G1).length)),(8,bM 8 (G1))] rfl ?_ ?_|refine Ex.cutBI 2 68 10 [(0,.s (.ptr (some (0,0)))),(2,bV lp),(6,bV (r&& !decide (x.op=33\/x.op=34\/x.op=35))),(13,.s (eQ cs)),(14,nI cs.length),(15,nI idx)] [(0,some (fJ p 3 nD 8 (if x.op=31 then aT true ks (cur+1) lp true (cx x.op cur lp G1) else if x.op=32 then aT true ks (cur+1) true true (cx x.op cur lp G1) else cx x.op cur lp G1).length)),(8,bM 8 (if x.op=31 then aT true ks (cur+1) lp true (cx x.op cur lp G1) else if x.op=32 then aT true ks (cur+1) true true (cx x.op cur lp G1) else cx x.op cur lp G1))] rfl ?_ ?_|refine y1 ?_|refine y2 ?_ ?_|refine y4 λh=>?_|refine y3 ?_|exact y5|fail)
   ·have hr:r=false:=by
     grind
    subst hr;subst hG1d
    repeat'(first|refine yA ?_|(refine wX ?_;refine kF [0,1,2,3,4,5,8,9] (dh p nD Gt cur 10 aa) rfl (bS rfl rfl rfl) rfl rfl rfl ⟨ah _,bB (congrArg nI (by rw[hcur])),ah _,trivial⟩ pi rfl rfl (wr:=[(0,some (fJ p 3 nD 10 (Gt.length+1))),(8,none),(10,bM 10 (Gt++[(cur,10)]))]) (by show [_,_,_]=_;rw[az];rfl) ?_)|fail)
    rw[show (if false=true then Gt else Gt++[(cur,10)]).length=Gt.length+1 from by simp];refine fH [0,1,2,3,4,5,6,7,10,11] rfl rfl ⟨ah _,ah _,ah _,bB (congrArg nI ae),ah _,ah _,ah _,trivial⟩ ⟨rfl,bh rfl trivial⟩ ?_
    (unfold bM;generalize List.flatMap cv _=cg;cases cg<;>rfl)
   ·have hr:r=true:=by
     grind
    subst hr;subst hG1d;refine fH [0,1,2,3,4,5,6,7,8,9] rfl rfl ⟨ah _,ah _,ah _,bB (congrArg nI ae),ah _,ah _,ah _,trivial⟩ ⟨rfl,bh rfl trivial⟩ ?_
    (unfold bM;generalize List.flatMap cv _=cg;cases cg<;>rfl)
   ·have ho:x.op=33:=ae
    rw[if_neg aa,if_neg aa,decide_eq_true aa,Z2z,Z4f];unfold cx;rw[if_neg aa];refine fH [0,1,2,3,4,5,6,7,8,9] rfl rfl ⟨ah _,ah _,ah _,ah _,ah _,ah _,trivial⟩ ⟨rfl,bh rfl trivial⟩ ?_
    (unfold bM;generalize List.flatMap cv _=cg;cases cg<;>rfl)
   ·have ho:x.op=34:=ae
    have hlp:lp=false:=by
     grind
    subst hlp;rw[if_neg aa,if_neg aa,decide_eq_true aa,Z2z,Z4f];unfold cx;rw[if_pos ⟨aa,rfl⟩,Z03,Z0n]
    repeat'(first|refine yA ?_|(refine wX ?_;refine kF [0,1,2,3,4,5,8,9] (dh p nD G1 cur 8 aa) rfl (bS rfl rfl rfl) rfl rfl rfl aP pi rfl rfl (wr:=[(0,some (fJ p 3 nD 10 (G1.length+1))),(8,none),(10,bM 10 (G1++[(cur,8)]))]) (by show [_,_,_]=_;rw[az];rfl) ?_)|fail)
    refine fH [0,1,2,3,4,5,6,7,10,11] rfl rfl ⟨ah _,ah _,ah _,ah _,ah _,ah _,trivial⟩ ⟨rfl,bh rfl trivial⟩ ?_
    (unfold bM;generalize List.flatMap cv _=cg;cases cg<;>rfl)
   ·have ho:x.op=34:=ae
    have hlp:lp=true:=by
     grind
    subst hlp;rw[if_neg aa,if_neg aa,decide_eq_true aa,Z2z,Z4f];unfold cx;rw[if_neg aq];refine fH [0,1,2,3,4,5,6,7,8,9] rfl rfl ⟨ah _,ah _,ah _,ah _,ah _,ah _,trivial⟩ ⟨rfl,bh rfl trivial⟩ ?_
    (unfold bM;generalize List.flatMap cv _=cg;cases cg<;>rfl)
   ·have ho:x.op=35:=ae
    have hlp:lp=false:=by
     grind
    subst hlp;rw[if_neg aa,if_neg aa,decide_eq_true aa,Z2z,Z4f];unfold cx;rw[if_pos ⟨aa,rfl⟩,Z03,Z0n]
    repeat'(first|refine yA ?_|(refine wX ?_;refine kF [0,1,2,3,4,5,8,9] (dh p nD G1 cur 8 aa) rfl (bS rfl rfl rfl) rfl rfl rfl aP pi rfl rfl (wr:=[(0,some (fJ p 3 nD 10 (G1.length+1))),(8,none),(10,bM 10 (G1++[(cur,8)]))]) (by show [_,_,_]=_;rw[az];rfl) ?_)|fail)
    refine fH [0,1,2,3,4,5,6,7,10,11] rfl rfl ⟨ah _,ah _,ah _,ah _,ah _,ah _,trivial⟩ ⟨rfl,bh rfl trivial⟩ ?_
    (unfold bM;generalize List.flatMap cv _=cg;cases cg<;>rfl)
   ·have ho:x.op=35:=ae
    have hlp:lp=true:=by
     grind
    subst hlp;rw[if_neg aa,if_neg aa,decide_eq_true aa,Z2z,Z4f];unfold cx;rw[if_neg aq];refine fH [0,1,2,3,4,5,6,7,8,9] rfl rfl ⟨ah _,ah _,ah _,ah _,ah _,ah _,trivial⟩ ⟨rfl,bh rfl trivial⟩ ?_
    (unfold bM;generalize List.flatMap cv _=cg;cases cg<;>rfl)
   ·have ho:x.op=31:=ae
    obtain⟨e,ke,rest,rfl,he,hrV,hr1,hr32⟩:=va t2 aa;have hcs':=bE (.cons e ke rest) (cur+1)
    have hkid':(p.getD cur dN).kids=(((Fo.cons e ke rest).starts (cur+1)).length:Nat):=by rw[hcx,hcs'];exact t1.2.1
    have hcc':=Fo.cnt_le (.cons e ke rest);have hch':=gx p hp cur (cur+1+(Fo.cons e ke rest).size) hcl _ hkid' (At.chain t1.2.2.1) aa;have hd1:((Fo.cons e ke rest).starts (cur+1)).drop 1=rest.starts (cur+1+1+ke.size):=rfl;have hrA:=t1.2.2.1.2.2.2;simp only[Fo.cnt,Fo.size] at hcs' hcc' t3 t6;generalize (Fo.cons e ke rest).starts (cur+1)=cs' at*
    have hst:∀ (m:Bool) (lq:Bool) (r:Bool) (G:List (Nat×Nat)),aT true (.cons e ke rest) (cur+1) lq r G=aT true rest (cur+1+1+ke.size) lq r G:=λm lq r G=>by simp only[aT,if_neg he]
    rw[hst true,hst true] at t7;rw[hst true,hst true]
    have hG2:cx x.op cur lp G1=G1:=by unfold cx;rw[if_neg aa]
    rw[hG2] at t7 |-;rw[decide_eq_false aa,Z2f,Z3m] at*;rw[if_pos ho] at t7 |-
    repeat'(first|refine yA ?_|refine y2 ?_ ?_|(refine wX ?_;refine MJ [0] 0 hch' rfl rfl aP rfl rfl (λφ w b=>Zbv 1 rfl) rfl pi rfl rfl rfl rfl ?_)|exact y5|fail)
    refine cy (σ:=Fo×Nat×Nat×List (Nat×Nat)) (λq=>[(49,nI q.2.2.1)]) (λq=>[(0,some (fJ p 3 nD 8 (q.2.2.2).length)),(8,bM 8 (q.2.2.2))])
     (λq=>q.1.At p q.2.1/\q.1.V (List.replicate q.1.cnt (true,83))/\(cur+1+1+ke.size<=q.2.1/\q.2.1+q.1.size=cur+1+(1+ke.size+rest.size))/\q.2.2.1+q.1.cnt=rest.cnt/\cs'.drop (1+q.2.2.1)=q.1.starts q.2.1/\q.2.2.2.length+2*q.1.size<=1000000000/\aT true q.1 q.2.1 lp true q.2.2.2=aT true rest (cur+1+1+ke.size) lp true G1) (λq=>q.1.size) (rest,cur+1+1+ke.size,0,G1) rfl (λ_=>rfl) ?_ ?_ ?_ ?_
    ·grind
    ·exact aP
    ·exact⟨rfl,fF rfl trivial⟩
    ·rintro⟨u,cu,iu,Gu⟩ ⟨u1,u2,⟨u0,u3⟩,u4,u5,u6,u7⟩
     simp only at u0 u1 u2 u3 u4 u5 u6 u7 |-
     cases u with
     |nil=>
      simp only[Fo.cnt,Z0p] at u4;simp only[aT] at u7;rw[<-u7]
      repeat'(first|refine yA ?_|refine y4 λh=>?_|fail)
      refine fH [0,1,2,3,4,5,6,7,8,9] rfl rfl ⟨ah _,ah _,ah _,ah _,ah _,ah _,trivial⟩ ⟨rfl,bh rfl trivial⟩ ?_
      (unfold bM;generalize List.flatMap cv _=cg;cases cg<;>rfl)
     |cons b' bl' n'=>
      simp only[Fo.size] at u3 u6;simp only[Fo.cnt] at u4
      have hbi:cs'.getD (1+iu) 0=cu:=by
       have:(cs'.drop (1+iu))[0]? =some cu:=by rw[u5];rfl
       grind
      have hnx:cs'.drop (1+(iu+1))=n'.starts (cu+1+bl'.size):=by
       rw[show 1+(iu+1)=1+iu+1 by omega,<-Z5c,u5];rfl
      have hb4:b'.op=4:=u2.1.1;rw[show aT true (.cons b' bl' n') cu lp true Gu=aT true n' (cu+1+bl'.size) lp true (aT false bl' (cu+1) lp true Gu) from by simp only[aT,if_pos hb4]] at u7;have hrec:=ih b' bl' cu lp Gu aa ⟨u1.1,u1.2.1,u1.2.2.1,trivial⟩ ⟨u2.1,u2.2.1,trivial⟩ aa;have hln:=fp false bl' (cu+1) lp true Gu;generalize aT false bl' (cu+1) lp true Gu=G3 at*
      repeat'(first|refine yA ?_|refine y2 ?_ ?_|refine y4 λh=>?_|(refine wX ?_;refine kF [0,1,2,3,4,5,8,9] hrec rfl (bS rfl rfl rfl) rfl rfl rfl ⟨ah _,bB (congrArg nI (by rw[hbi])),ah _,trivial⟩ pi rfl rfl (wr:=[(0,some (fJ p 3 nD 10 G3.length)),(8,none),(10,bM 10 G3)]) (by show [_,_,_]=_;rw[az];rfl) ?_)|exact y5|fail)
      refine fX (n',cu+1+bl'.size,iu+1,G3) ⟨u1.2.2.2,u2.2.2,⟨ae,ae⟩,ae,hnx,ae,u7⟩ (by simp only[Fo.size];omega) [0,1,2,3,4,5,6,7,10,11] rfl ?_ ?_ ?_
      ·repeat'(first|exact ah _|exact dd _|exact Z0o|refine⟨?_,?_⟩)
      ·exact⟨rfl,bh rfl trivial⟩
      ·(unfold bM;generalize List.flatMap cv _=cg;cases cg<;>rfl)
   ·have ho:x.op=32:=ae
    obtain⟨e,ke,rest,rfl,he,hrV,hr1,hr32⟩:=va t2 aa;have hcs':=bE (.cons e ke rest) (cur+1)
    have hkid':(p.getD cur dN).kids=(((Fo.cons e ke rest).starts (cur+1)).length:Nat):=by rw[hcx,hcs'];exact t1.2.1
    have hcc':=Fo.cnt_le (.cons e ke rest);have hch':=gx p hp cur (cur+1+(Fo.cons e ke rest).size) hcl _ hkid' (At.chain t1.2.2.1) aa;have hd1:((Fo.cons e ke rest).starts (cur+1)).drop 1=rest.starts (cur+1+1+ke.size):=rfl;have hrA:=t1.2.2.1.2.2.2;simp only[Fo.cnt,Fo.size] at hcs' hcc' t3 t6;generalize (Fo.cons e ke rest).starts (cur+1)=cs' at*
    have hst:∀ (m:Bool) (lq:Bool) (r:Bool) (G:List (Nat×Nat)),aT true (.cons e ke rest) (cur+1) lq r G=aT true rest (cur+1+1+ke.size) lq r G:=λm lq r G=>by simp only[aT,if_neg he]
    rw[hst true,hst true] at t7;rw[hst true,hst true]
    have hG2:cx x.op cur lp G1=G1:=by unfold cx;rw[if_neg aa]
    rw[hG2] at t7 |-;rw[decide_eq_false aa,Z2f,Z3m] at*;rw[if_neg aa,if_pos ho] at t7 |-;have hc1:=hr32 ho
    cases rest with
    |nil=>exact absurd hr1 ac
    |cons b' bl' n'=>
     cases n' with
     |cons b2 bl2 n2=>simp only[Fo.cnt] at hc1;omega
     |nil=>
      have hb4:b'.op=4:=hrV.1.1
      have hbi:cs'.getD 1 0=cur+1+1+ke.size:=by
       have:(cs'.drop 1)[0]? =some (cur+1+1+ke.size):=by rw[hd1];rfl
       grind
      simp only[Fo.size,Z0p] at t3 t6;rw[show aT true (.cons b' bl' .nil) (cur+1+1+ke.size) true true G1=aT false bl' (cur+1+1+ke.size+1) true true G1 from by simp only[aT,if_pos hb4]] at t7 |-;have hrec:=ih b' bl' (cur+1+1+ke.size) true G1 aa hrA hrV aa;generalize aT false bl' (cur+1+1+ke.size+1) true true G1=G3 at*;simp only[Fo.cnt] at hcs'
      repeat'(first|refine yA ?_|refine y2 ?_ ?_|(refine wX ?_;refine MJ [0] 0 hch' rfl rfl aP rfl rfl (λφ w b=>Zbv 1 rfl) rfl pi rfl rfl rfl rfl ?_)|(refine wX ?_;refine kF [0,1,2,3,4,5,8,9] hrec rfl (bS rfl rfl rfl) rfl rfl rfl ⟨ah _,bB (congrArg nI (by rw[hbi])),ah _,trivial⟩ pi rfl rfl (wr:=[(0,some (fJ p 3 nD 10 G3.length)),(8,none),(10,bM 10 G3)]) (by show [_,_,_]=_;rw[az];rfl) ?_)|exact y5|fail)
      refine fH [0,1,2,3,4,5,6,7,10,11] rfl rfl ⟨ah _,ah _,ah _,ah _,ah _,ah _,trivial⟩ ⟨rfl,bh rfl trivial⟩ ?_
      (unfold bM;generalize List.flatMap cv _=cg;cases cg<;>rfl)
   ·rw[<-hcx] at t7 |-
    rw[if_neg aa,if_neg aa,decide_eq_false aa,Z2f,Z3m];unfold cx;rw[if_neg aa];refine fH [0,1,2,3,4,5,6,7,8,9] rfl rfl ⟨ah _,ah _,ah _,ah _,ah _,ah _,trivial⟩ ⟨rfl,bh rfl trivial⟩ ?_
    (unfold bM;generalize List.flatMap cv _=cg;cases cg<;>rfl)
   ·have hln:(if x.op=31 then aT true ks (cur+1) lp true (cx x.op cur lp G1) else if x.op=32 then aT true ks (cur+1) true true (cx x.op cur lp G1) else cx x.op cur lp G1).length+2*n.size<=1000000000:=by
     grind [zU,fp]
    generalize (if x.op=31 then aT true ks (cur+1) lp true (cx x.op cur lp G1) else if x.op=32 then aT true ks (cur+1) true true (cx x.op cur lp G1) else cx x.op cur lp G1)=G4 at*;refine dz (n,cur+1+ks.size,idx+1,(r&& !decide (x.op=33\/x.op=34\/x.op=35)),G4) ⟨t1.2.2.2,t2.2.2,⟨ae,ae⟩,ae,hnext,hln,t7⟩ (by simp only[Fo.size];omega) rfl aP ⟨rfl,fF rfl trivial⟩ rfl ?_ ac;exact bS rfl rfl rfl
theorem zT (p:List Nd) (hp:p.length<=2048) (nD:Nat):∀ N,K9 p nD N
 |0=>λb k i lp G h=>absurd h (Z1m _)
 |N+1=>Lv p hp nD N (zT p hp nD N)
theorem sn {p:List Nd} {c':Int}:∀ (ls:List Int) (t:Fo) (i:Nat),(ls.all eI)=true->t.V (ls.map (λc=>(false,c))++[(true,c')])->t.At p i->
 ∃ b bl,(Fo.cons b bl .nil).At p (i+ls.length)/\(Fo.cons b bl .nil).V [(true,c')]/\t.size=ls.length+1+bl.size
 |[],t,i,_,h,ha=>by
  grind [Fo.size,jY,iE]
 |c::ls,t,i,hl,h,ha=>by
  simp only[Z1b,Z07] at hl;obtain⟨y,n,rfl,h1,h2⟩:=eN hl.1 h;obtain⟨b,bl,g1,g2,g3⟩:=sn ls n (i+1) hl.2 h1 (by simpa [Fo.size] using ha.2.2.2)
  grind [Fo.size]
def iY (p:List Nd) (lim:Int):Nat->Nat->List (Nat×Nat)->List (Nat×Nat)
 |0,_,G=>G
 |c+1,j,G=>iY p lim c (j+1) (if (p.getD j dN).op=7/\lim<=aj p j then G++[(j,9)] else G)
theorem qG (p:List Nd) (lim:Int):∀ (c j:Nat) (G:List (Nat×Nat)),(iY p lim c j G).length<=G.length+c
 |0,_,_=>Z02 _
 |c+1,j,G=>by
  simp only[iY];have:=qG p lim c (j+1) (if (p.getD j dN).op=7/\lim<=aj p j then G++[(j,9)] else G)
  grind
def ov (p:List Nd) (bl:Fo) (i:Nat) (G:List (Nat×Nat)):List (Nat×Nat):=aT false bl (i+6) false true (iY p (aj p (i+2)) (bl.size+1) (i+5) G)
theorem L5 (p:List Nd) (hp:p.length<=2048) (nD:Nat) (i:Nat) (b:Nd) (bl:Fo) (G:List (Nat×Nat)) (hend0:Ends p (i+6+bl.size) 1 i) (ha:(Fo.cons b bl .nil).At p (i+5)) (hv:(Fo.cons b bl .nil).V [(true,83)]) (hG:G.length+4*2048<=1000000000):
 FQ 179 [.s (.ptr (some (0,0))),nI i] 8 (stL p nD G) .any 10 (Lw p nD (ov p bl i G)):=by
 have hi5:=At.lt ha;have hsz:=At.size_le (Z1k hi5) ha;simp only[Fo.size] at hsz;have hend:=E7 p hp i (i+6+bl.size) hend0;have hal:=qG p (aj p (i+2)) (bl.size+1) (i+5) G;have hst:=zT p hp nD (bl.size+1) b bl (i+5) false (iY p (aj p (i+2)) (bl.size+1) (i+5) G) (Z1t _) ha hv aa;unfold ov;generalize hA:iY p (aj p (i+2)) (bl.size+1) (i+5) G=A at*;refine wW Tryz.func179 ?_
 repeat'(first|refine my [0,1,2,3,4,5,6,7,6,7] 52 [(0,.s (.ptr (some (0,0)))),(1,nI i),(4,nI (i+6+bl.size:Nat)),(5,nI (i+5:Nat))] [(0,some (fJ p 3 nD 8 (G).length)),(8,bM 8 (G))] rfl rfl ⟨ah _,ah _,ah _,bB (congrArg nI (by push_cast;rfl)),trivial⟩ ⟨rfl,bh rfl trivial⟩ (by unfold bM;generalize List.flatMap cv _=cg;cases cg<;>rfl) (Ex.block ?_)|refine y1 ?_|refine y2 ?_ ?_|refine wX (ji [0] 0 hend ?_)|refine y3 ?_|exact y5|fail)
 refine cy (σ:=Nat×Nat×List (Nat×Nat)) (λq=>[(5,nI q.2.1)]) (λq=>[(0,some (fJ p 3 nD 8 (q.2.2).length)),(8,bM 8 (q.2.2))])
  (λq=>q.1+q.2.1=i+6+bl.size/\i+5<=q.2.1/\q.2.2.length+q.1<=G.length+(bl.size+1)/\iY p (aj p (i+2)) q.1 q.2.1 q.2.2=A) (λq=>q.1) (bl.size+1,i+5,G) rfl (λ_=>rfl) ?_ ?_ ?_ ?_
 ·grind
 ·exact aP
 ·exact⟨rfl,fF rfl trivial⟩
 ·rintro⟨c,j,Gt⟩ ⟨t1,t2,t3,t4⟩
  simp only at t1 t2 t3 t4 |-
  cases c with
  |zero=>
   simp only[iY] at t4;subst t4
   repeat'(first|refine yA ?_|refine y2 ?_ ?_|refine y4 λh=>?_|(refine wX ?_;refine kF [0,1,2,3,4,5,8,9] hst rfl (bS rfl rfl rfl) rfl rfl rfl ⟨ah _,bB (congrArg nI (by push_cast;rfl)),ah _,trivial⟩ pi rfl rfl (wr:=[(0,some (fJ p 3 nD 10 (aT false bl (i+5+1) false true Gt).length)),(8,none),(10,bM 10 (aT false bl (i+5+1) false true Gt))]) (by show [_,_,_]=_;rw[az];rfl) ?_)|exact y5|fail)
   refine⟨.inr rfl,.tup [],[10,11],dd _,fY rfl ?_ rfl ?_ rfl rfl⟩
   ·exact⟨rfl,bh rfl trivial⟩
   ·exact bS rfl rfl rfl
  |succ c=>
   simp only[iY] at t4;by_cases hc:(p.getD j dN).op=7/\aj p (i+2)<=aj p j
   ·rw[if_pos hc] at t4
    obtain⟨hc1,hc2⟩:=hc;unfold aj at hc2
    repeat'(first|refine yA ?_|refine y2 ?_ ?_|(refine y4 λh=>?_;try(first|(exact absurd hc2 (by assumption))|exact y6))|(refine wX ?_;refine kF [0,1,2,3,4,5,8,9] (dh p nD Gt j 9 aa) rfl (bS rfl rfl rfl) rfl rfl rfl aP pi rfl rfl (wr:=[(0,some (fJ p 3 nD 10 (Gt.length+1))),(8,none),(10,bM 10 (Gt++[(j,9)]))]) (by show [_,_,_]=_;rw[az];rfl) ?_)|exact y5|fail)
    refine fX (c,j+1,Gt++[(j,9)]) ⟨ae,ae,ae,t4⟩ ae [0,1,2,3,4,5,6,7,10,11] rfl ?_ ?_ ?_
    ·repeat'(first|exact ah _|exact dd _|exact Z0o|refine⟨?_,?_⟩)
    ·rw[Z03,Z0n]
     exact⟨rfl,bh rfl trivial⟩
    ·(unfold bM;generalize List.flatMap cv _=cg;cases cg<;>rfl)
   ·rw[if_neg hc] at t4
    unfold aj at hc
    repeat'(first|refine yA ?_|refine y2 ?_ ?_|(refine y4 λh=>?_;try(first|(exfalso;exact hc ⟨by assumption,by assumption⟩)|exact y6))|exact y5|fail)
    all_goals
     refine dz (c,j+1,Gt) ⟨ae,ae,ae,t4⟩ ae rfl ⟨bB (congrArg nI ae),trivial⟩ ⟨rfl,fF rfl trivial⟩ rfl ?_ ac;exact bS rfl rfl rfl
