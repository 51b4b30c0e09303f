import Derived.Test.YtegjgpldfgjoiaaGreatDoorCnB32
import Derived.WalkKit
import Derived.ProofKit
import Derived.OpenShut
import Derived.ShutString
import Derived.ChangeOld
import Derived.Below
import Derived.Lib.SmallJoins
import Derived.Handed
import Derived.Lay
import Derived.LaidOnce
import Derived.Stop.Joined
import Derived.Deep.Slices
import Derived.Test.YtegjgpldfgjoiaaGreatDoorTie
import Derived.Test.YtegjgpldfgjoiaaGreatDoorCnB22
set_option linter.unusedSimpArgs false
set_option linter.unusedVariables false
namespace Go.Proofs.YtegjgpldfgjoiaaGreatDoor
open Go Ab
set_option maxRecDepth 100000
set_option maxHeartbeats 4000000
theorem uN:∀ (n:Nat) (s:Int) (k:Nat),k<n->(co s n).getD k 0=s+(k:Int)
 |0,_,_,h=>absurd h (Nat.not_lt_zero _)
 |n+1,s,0,_=>by simp[co]
 |n+1,s,k+1,h=>by
  have:=uN n (s+1) k (by omega);rw[co,List.getD_cons_succ,this];omega
theorem qZ {n k:Nat} (h:k<n):(co 0 n).getD k 0=(k:Int):=by rw[uN n 0 k h];omega
theorem yB (E:List Ent) (T:List Tb) (k:Nat) (hk:k<E.length) (X:Ent) (hX:E.getD k eZ=X):FC Tryz.prog 27 [.s (.ptr (some (0,0))),nI k] 4 (spL E T) (.tup [.agg (yD X),.s (.bool true)]) 4 (spL E T):=by
 have h:=Ea E T (k:Int) (some (E.getD k eZ)) (by unfold GK;rw[if_neg (by omega),List.getD_eq_getElem?_getD,List.getElem?_eq_getElem (by omega:((k:Int)).toNat<E.length)];simp[hk]);rw[<-hX];exact h
section
variable {P:Program} {b:Nat} {env:List V} {n:Nat} {L:Hp} {R:Post}
theorem Ex.irow {c:Code} (t i:Nat) (l:List Int) {N:Nat} (hN:l.length=N) (ht:env.getD t .undef=.s (.row i (i+1) N)) (hl:lk L i=unB i l) {env':List V} (he:env.set t (.s (.frz (fun k=>[.int .i64 (l.getD k 0)]) 1 N))=env') {L':Hp} (hL:put L i none=L') (k:Ex P b c env' n L' R):Ex P b c env n L R:=by
 subst hN
 cases l with
 |nil=>
  subst hL;refine Ex.set t _ (by rw[ht];exact VLe.s SLe.row0) he (Ex.subF (fun j bl hj=>?_) k);rw[ax] at hj;split at hj
  ·cases hj
  ·exact⟨bl,hj,rfl,fun _ _ _ h=>h⟩
 |cons x fs=>
  have hlen:t<env.length:=by
   rcases Nat.lt_or_ge t env.length with h|h
   ·exact h
   ·rw[List.getD_eq_getElem?_getD,List.getElem?_eq_none h] at ht;cases ht
  refine Ex.set t (.s (.sla i (i+1) (x::fs).length)) (by rw[ht];exact VLe.s (SLe.rowsla (Nat.succ_pos _))) rfl ?_;refine Ex.fz t (fun k=>[.int .i64 ((x::fs).getD k 0)]) 1 (bl:={cells:=(x::fs).map fun z=>S.int .i64 z,ty:=3,more:=true,sym:=true,flat:=true,gh:=some (i+1,1)}) (i:=i) (N:=(x::fs).length) ?_ hl rfl rfl (fun _ _=>rfl) (kV _) ?_ hL k
  ·rw[List.getD_eq_getElem?_getD,List.getElem?_set,if_pos rfl,if_pos hlen];rfl
  ·rw[<-he,List.set_set]
end
theorem mS:∀ (E:List Ent) (s:Int) (k:Nat),k<E.length->(s+(k:Int),(E.getD k eZ).par)∈bN s E
 |[],_,_,h=>absurd h (Nat.not_lt_zero _)
 |x::t,s,0,_=>by rw[bN];simp
 |x::t,s,k+1,h=>by
  have:=mS t (s+1) k (by simpa using h);rw[bN,List.getD_cons_succ,show s+((k+1:Nat):Int)=s+1+(k:Int) by omega];exact List.mem_cons_of_mem _ this
theorem uG {E:List Ent} {i j:Nat} (hi:i<E.length) (hp:(E.getD i eZ).par=(j:Int)):∃ k,k<(cM E j).length/\(cM E j).getD k 0=(i:Int):=by
 have hm:((i:Nat):Int)∈cM E j:=by
  have:=mS E 0 i hi;rw[Int.zero_add] at this;exact List.mem_map.2 ⟨_,List.mem_filter.2 ⟨this,by simp only[decide_eq_true_eq];exact hp⟩,rfl⟩
 obtain⟨k,hk,e⟩:=List.mem_iff_getElem.1 hm;exact⟨k,hk,by rw[List.getD_eq_getElem?_getD,List.getElem?_eq_getElem hk];exact e⟩
structure PathI (E:List Ent):Prop where
 n3:3<=E.length
 n1:E.length<=1024
 ne:∀ i k,k<i->i<E.length->(E.getD i eZ).path≠(E.getD k eZ).path
 sh:∀ i,(E.getD i eZ).path.length<1000
 up:∀ i,0<i->i<E.length->∃ j:Nat,j<E.length/\(E.getD i eZ).par=(j:Int)/\(E.getD j eZ).path.length<(E.getD i eZ).path.length/\(E.getD i eZ).path.take (E.getD j eZ).path.length=(E.getD j eZ).path
theorem EC (l1 l2:List Int) (p1 p2:List Nd) (hg1:FC Tryz.prog 14 [.s (chF l1)] 0 [] (ae p1) 0 []) (hg2:FC Tryz.prog 28 [.s (chF l2)] 0 [] (ae p2) 0 []) (haw:FC Tryz.prog 12 [] 0 [] (bV true) 0 [])
 (E1 E:List Ent) (T1 T:List Tb) (z1 e1 z2 e2:Int) (hl1:LoadR p1 E0 [] E1 T1 z1 e1) (hl2:LoadR p2 E1 T1 E T z2 e2) (hP:PathI E):
 FC Tryz.prog 5 [.s (chF l1),.s (chF l2)] 0 [] (bV true) 0 []:=by
 have hn:=uz;have L1:=hl1.h;have L2:=hl2.h;have ho:=ju E T hP.n1;refine FC.walk (by kernel_rfl) Tryz.func5 rfl rfl ?_
 repeat'(first|exact y0|refine y1 ?_|refine y2 ?_ ?_|(refine y8 ?_ ?_<;>intro h<;>try exact y6)|(refine wC ?_;first|refine wF 12 (pu haw ?_)|refine wF 14 (pu hg1 ?_)|refine wF 28 (pu hg2 ?_)|(refine wF 10 ?_;refine CallG.me [] hn rfl rfl trivial trivial rfl rfl rfl ?_)|(refine wF 25 ?_;refine CallG.mo [0,1,2,3] L1 rfl rfl rfl rfl rfl ⟨VLe.refl _,VLe.refl _,trivial⟩ ⟨⟨rfl,_,rfl,rfl,fun h=>h⟩,⟨rfl,_,rfl,rfl,fun h=>h⟩,⟨rfl,_,rfl,rfl,fun h=>h⟩,⟨rfl,_,rfl,rfl,fun h=>h⟩,trivial⟩ rfl rfl (wr:=spN E1 T1) (by rfl) ?_)|(refine wF 25 ?_;refine CallG.mo [0,4,5,6] L2 rfl rfl rfl rfl rfl ⟨VLe.refl _,VLe.refl _,trivial⟩ ⟨⟨rfl,_,rfl,rfl,fun h=>h⟩,⟨rfl,_,rfl,rfl,fun h=>h⟩,⟨rfl,_,rfl,rfl,fun h=>h⟩,⟨rfl,_,rfl,rfl,fun h=>h⟩,trivial⟩ rfl rfl (wr:=[(0,some (bn 7 8 9 (E.length:Nat) (1+(T.length:Int)))),(4,none),(5,none),(6,none),(7,some (oB E)),(8,some (pB E)),(9,some (tB T))]) (by rfl) ?_)|(refine wF 26 ?_;refine CallG.mo [0,7,8,9] ho rfl rfl rfl rfl rfl ⟨VLe.refl _,trivial⟩ ⟨⟨rfl,_,rfl,rfl,fun h=>h⟩,⟨rfl,_,rfl,rfl,fun h=>h⟩,⟨rfl,_,rfl,rfl,fun h=>h⟩,⟨rfl,_,rfl,rfl,fun h=>h⟩,trivial⟩ rfl rfl (wr:=[(0,some (bn 7 8 9 (E.length:Nat) (1+(T.length:Int)))),(7,some (oB E)),(8,some (pB E)),(9,some (tB T)),(10,unB 10 (co 0 E.length))]) (by show [_,_,_,_,_]=_;rw[ah];rfl) ?_))|refine y3 ?_|refine y7 ?_ ?_|refine y4 ?_|(refine y9 ?_ ?_<;>intro h)|exact y5|fail)
 refine Ex.irow 6 10 (co 0 E.length) (dC _ _) rfl rfl rfl rfl ?_;refine Ex.inv (σ:=Nat) (fun i=>[(7,nI i)]) (fun _=>[(0,some (bn 7 8 9 (E.length:Nat) (1+(T.length:Int)))),(7,some (oB E)),(8,some (pB E)),(9,some (tB T))]) (fun i=>i<=E.length) (fun i=>E.length-i) 0 rfl (fun _=>rfl) (Nat.zero_le _) ⟨VLe.refl _,trivial⟩ ⟨rfl,rfl,rfl,rfl,trivial⟩ ?_;intro i hi;have hn1:=hP.n1;by_cases hlt:i<E.length
 ·obtain⟨X,hX⟩:∃ X,E.getD i eZ=X:=⟨_,rfl⟩
  have hoi:=yB E T i hlt X hX;have hgi:=qZ hlt
  repeat'(first|exact y0|refine y1 ?_|refine y2 ?_ ?_|(refine y8 ?_ ?_<;>intro h<;>try exact y6)|(refine wC ?_;first|(refine wF 27 ?_;refine CallG.me [0,7,8,9] hoi rfl rfl ⟨VLe.refl _,VLe.of_eq (congrArg nI hgi),trivial⟩ ⟨⟨rfl,_,rfl,rfl,fun h=>h⟩,⟨rfl,_,rfl,rfl,fun h=>h⟩,⟨rfl,_,rfl,rfl,fun h=>h⟩,⟨rfl,_,rfl,rfl,fun h=>h⟩,trivial⟩ rfl rfl rfl ?_))|refine y3 ?_|refine y7 ?_ ?_|refine y4 ?_|(refine y9 ?_ ?_<;>intro h)|exact y5|fail)
  all_goals try omega
  refine Ex.inv (σ:=Nat) (fun k=>[(10,nI k)]) (fun _=>[(0,some (bn 7 8 9 (E.length:Nat) (1+(T.length:Int)))),(7,some (oB E)),(8,some (pB E)),(9,some (tB T)),(12,some {cells:=yD X,ty:=38})]) (fun k=>k<=i) (fun k=>i-k) 0 rfl (fun _=>rfl) (Nat.zero_le _) ⟨VLe.refl _,trivial⟩ ⟨rfl,rfl,rfl,rfl,rfl,trivial⟩ ?_;intro k hk;by_cases hkl:k<i
  ·obtain⟨Y,hY⟩:∃ Y,E.getD k eZ=Y:=⟨_,rfl⟩
   have hok:=yB E T k (by omega) Y hY;have hgk:=qZ (n:=E.length) (k:=k) (by omega);have hne:=hP.ne i k hkl hlt;rw[hX,hY] at hne
   repeat'(first|exact y0|refine y1 ?_|refine y2 ?_ ?_|(refine y8 ?_ ?_<;>intro h<;>try(exact y6))|(refine wC ?_;first|(refine wF 27 ?_;refine CallG.me [0,7,8,9] hok rfl rfl ⟨VLe.refl _,VLe.of_eq (congrArg nI hgk),trivial⟩ ⟨⟨rfl,_,rfl,rfl,fun h=>h⟩,⟨rfl,_,rfl,rfl,fun h=>h⟩,⟨rfl,_,rfl,rfl,fun h=>h⟩,⟨rfl,_,rfl,rfl,fun h=>h⟩,trivial⟩ rfl rfl rfl ?_))|refine y3 ?_|refine y7 ?_ ?_|refine y4 ?_|(refine y9 ?_ ?_<;>intro h)|exact y5|fail)
   all_goals try first
    |omega
    |exact aa (by omega) (by omega)
   exact LoopR.same (k+1) (by omega) (by omega) rfl ⟨VLe.of_eq (congrArg nI (by push_cast;omega)),trivial⟩ ⟨rfl,rfl,rfl,rfl,rfl,trivial⟩ rfl rfl (by decide)
  ·obtain rfl:k=i:=by omega
   by_cases hi0:k=0
   ·
    repeat'(first|exact y0|refine y1 ?_|refine y2 ?_ ?_|(refine y8 ?_ ?_<;>intro h<;>try(exact y6))|refine y3 ?_|refine y7 ?_ ?_|refine y4 ?_|(refine y9 ?_ ?_<;>intro h)|exact y5|fail)
    all_goals try first
     |omega
     |exact aa (by omega) (by omega)
    exact LoopR.same (k+1) (by omega) (by omega) rfl ⟨VLe.of_eq (congrArg nI (by push_cast;omega)),trivial⟩ ⟨rfl,rfl,rfl,rfl,trivial⟩ rfl rfl (by decide)
   ·obtain⟨j,hj1,hj2,hj3,hj4⟩:=hP.up k (by omega) hlt
    rw[hX] at hj2 hj3 hj4
    obtain⟨Z,hZ⟩:∃ Z,E.getD j eZ=Z:=⟨_,rfl⟩
    have hoj:=yB E T j hj1 Z hZ;have hkd:=zk E T hn1 j hj1;obtain⟨k0,hk0,hk1⟩:=uG (E:=E) (i:=k) (j:=j) hlt (by rw[hX];exact hj2)
    have hkl2:(cM E j).length<=E.length:=by
     unfold cM;rw[List.length_map];exact Nat.le_trans (List.length_filter_le _ _) (Nat.le_of_eq (dU _ _))
    generalize cM E j=K at*;rw[hZ] at hj3 hj4;have hsh:=hP.sh k;rw[hX] at hsh
    repeat'(first|exact y0|refine y1 ?_|refine y2 ?_ ?_|(refine y8 ?_ ?_<;>intro h<;>try(exact y6))|(refine wC ?_;first|(refine wF 27 ?_;refine CallG.me [0,7,8,9] hoj rfl rfl ⟨VLe.refl _,VLe.of_eq (congrArg nI hj2),trivial⟩ ⟨⟨rfl,_,rfl,rfl,fun h=>h⟩,⟨rfl,_,rfl,rfl,fun h=>h⟩,⟨rfl,_,rfl,rfl,fun h=>h⟩,⟨rfl,_,rfl,rfl,fun h=>h⟩,trivial⟩ rfl rfl rfl ?_)|(refine wF 29 ?_;refine CallG.mo [0,7,8,9] hkd rfl rfl rfl rfl rfl ⟨VLe.refl _,VLe.of_eq (congrArg nI hj2),trivial⟩ ⟨⟨rfl,_,rfl,rfl,fun h=>h⟩,⟨rfl,_,rfl,rfl,fun h=>h⟩,⟨rfl,_,rfl,rfl,fun h=>h⟩,⟨rfl,_,rfl,rfl,fun h=>h⟩,trivial⟩ rfl rfl (wr:=[(0,some (bn 7 8 9 (E.length:Nat) (1+(T.length:Int)))),(7,some (oB E)),(8,some (pB E)),(9,some (tB T)),(14,unB 14 K)]) (by show [_,_,_,_,_]=_;rw[ah];rfl) ?_))|refine y3 ?_|refine y7 ?_ ?_|refine y4 ?_|(refine y9 ?_ ?_<;>intro h)|exact y5|fail)
    all_goals try first
     |omega
     |exact aa (by omega) (by omega)
    refine Ex.irow 16 14 K rfl rfl rfl rfl rfl ?_;refine Ex.inv (σ:=Nat×Bool) (fun q=>[(15,.s (.bool q.2)),(17,nI q.1)]) (fun _=>[(0,some (bn 7 8 9 (E.length:Nat) (1+(T.length:Int)))),(7,some (oB E)),(8,some (pB E)),(9,some (tB T)),(12,some {cells:=yD X,ty:=38}),(13,some {cells:=yD Z,ty:=38})]) (fun q=>q.1<=K.length/\(k0<q.1->q.2=true)) (fun q=>K.length-q.1) (0,false) rfl (fun _=>rfl) ⟨Nat.zero_le _,fun h=>absurd h (Nat.not_lt_zero _)⟩ ⟨VLe.refl _,VLe.refl _,trivial⟩ ⟨rfl,rfl,rfl,rfl,rfl,rfl,trivial⟩ ?_;rintro⟨c,f⟩ ⟨c1,c2⟩;simp only at c1 c2 |-;by_cases hc:c<K.length
    ·cases f with
     |true=>
      repeat'(first|exact y0|refine y1 ?_|refine y2 ?_ ?_|(refine y8 ?_ ?_<;>intro h<;>try(exact y6))|refine y3 ?_|refine y7 ?_ ?_|refine y4 ?_|(refine y9 ?_ ?_<;>intro h)|exact y5|fail)
      all_goals try first
       |omega
       |exact aa (by omega) (by omega)
      all_goals refine LoopR.same (c+1,true) ⟨by simp only;omega,fun _=>rfl⟩ (by simp only;omega) rfl ⟨VLe.refl _,VLe.of_eq (congrArg nI (by push_cast;omega)),trivial⟩ ⟨rfl,rfl,rfl,rfl,rfl,rfl,trivial⟩ rfl rfl (by decide)
     |false=>
      by_cases hce:K.getD c 0=(k:Int)
      ·
       repeat'(first|exact y0|refine y1 ?_|refine y2 ?_ ?_|(refine y8 ?_ ?_<;>intro h<;>try(exact y6))|refine y3 ?_|refine y7 ?_ ?_|refine y4 ?_|(refine y9 ?_ ?_<;>intro h)|exact y5|fail)
       all_goals try first
        |omega
        |exact aa (by omega) (by omega)
       all_goals refine LoopR.same (c+1,true) ⟨by simp only;omega,fun _=>rfl⟩ (by simp only;omega) rfl ⟨VLe.refl _,VLe.of_eq (congrArg nI (by push_cast;omega)),trivial⟩ ⟨rfl,rfl,rfl,rfl,rfl,rfl,trivial⟩ rfl rfl (by decide)
      ·
       have c3: ¬k0<c:=fun h=>by have:=c2 h;cases this
       have c4: ¬k0=c:=fun h=>hce (by rw[<-h];exact hk1)
       repeat'(first|exact y0|refine y1 ?_|refine y2 ?_ ?_|(refine y8 ?_ ?_<;>intro h<;>try(exact y6))|refine y3 ?_|refine y7 ?_ ?_|refine y4 ?_|(refine y9 ?_ ?_<;>intro h)|exact y5|fail)
       all_goals try first
        |omega
        |exact aa (by omega) (by omega)
       all_goals refine LoopR.same (c+1,false) ⟨by simp only;omega,fun h=>by simp only at h;omega⟩ (by simp only;omega) rfl ⟨VLe.refl _,VLe.of_eq (congrArg nI (by push_cast;omega)),trivial⟩ ⟨rfl,rfl,rfl,rfl,rfl,rfl,trivial⟩ rfl rfl (by decide)
    ·obtain rfl:f=true:=c2 (by omega)
     repeat'(first|exact y0|refine y1 ?_|refine y2 ?_ ?_|(refine y8 ?_ ?_<;>intro h<;>try(exact y6))|refine y3 ?_|refine y7 ?_ ?_|refine y4 ?_|(refine y9 ?_ ?_<;>intro h)|exact y5|fail)
     all_goals try first
      |omega
      |exact aa (by omega) (by omega)
     exact LoopR.same (k+1) (by omega) (by omega) rfl ⟨VLe.of_eq (congrArg nI (by push_cast;omega)),trivial⟩ ⟨rfl,rfl,rfl,rfl,trivial⟩ rfl rfl (by decide)
 ·obtain rfl:i=E.length:=by omega
  repeat'(first|exact y0|refine y1 ?_|refine y2 ?_ ?_|(refine y8 ?_ ?_<;>intro h<;>try(exact y6))|refine y3 ?_|refine y7 ?_ ?_|refine y4 ?_|(refine y9 ?_ ?_<;>intro h)|exact y5|fail)
  exact Fin.bool (.inl rfl) rfl rfl
set_option maxRecDepth 100000
set_option maxHeartbeats 2000000
theorem zS (x:By) (hx:x≠[]) (l:List By):∃ s,s≠[]/\Lib.join (l++[x]) [46]=Lib.join l [46]++s:=by
 rw[jA];split
 ·rename_i h;subst h;exact⟨x,hx,by simp[Lib.join]⟩
 ·exact⟨[46]++x,by simp,by simp⟩
theorem wG (q:Pth):(aL q).length<=500:=by
 unfold aL;split
 ·rename_i h
  obtain⟨h1,h2,h3,_,h5,_⟩:=aS h;have h6:=iR h5;rw[List.length_append];split
  ·simp only[List.length_singleton];omega
  ·rw[List.length_replicate];omega
 ·simp
theorem sP {q ab:Pth} (h:bw q=(ab,true)):(aL ab).length<(aL q).length/\(aL q).take (aL ab).length=aL ab:=by
 unfold bw at h;split at h
 ·cases h
 ·rename_i hn
  cases h;obtain⟨r,up,segs⟩:=q
  have h1:fM ⟨r,up,segs⟩=true:=by
   cases e:fM ⟨r,up,segs⟩ with
   |true=>rfl
   |false=>exact absurd (.inl e) hn
  have h2:segs.length≠0:=fun e=>hn (.inr e)
  obtain⟨a1,a2,a3⟩:=gQ h1;simp only at a1 a2 a3;subst a1;subst a2
  have hv:aC ⟨true,0,segs⟩=true:=by
   unfold fM at h1
   simpa using h1
  obtain⟨v1,v2,v3,v4,v5,v6⟩:=aS hv;simp only at v1 v2 v3 v4 v5 v6
  obtain⟨l,x,rfl⟩:∃ l x,segs=l++[x]:=⟨segs.dropLast,segs.getLast (fun e=>h2 (by rw[e];rfl)),(List.dropLast_concat_getLast _).symm⟩
  have ht:(l++[x]).take ((l++[x]).length-1)=l:=by simp
  rw[ht];have hx:aG x=true:=List.all_eq_true.1 v5 x (by simp);have hxl:=eX hx
  have hvl:aC ⟨true,0,l⟩=true:=by
   unfold aC at hv |-;simp only[List.all_append,List.length_append,Bool.and_eq_true,Bool.or_eq_true,decide_eq_true_eq,List.length_singleton] at hv |-;obtain⟨⟨⟨⟨⟨w1,w2⟩,w3⟩,w4⟩,w5⟩,w6⟩:=hv;exact⟨⟨⟨⟨⟨w1,w2⟩,w3⟩,by omega⟩,w5.1⟩,.inl (.inl trivial)⟩
  obtain⟨s,s1,s2⟩:=zS x (by intro e;rw[e] at hxl;simp at hxl) l;unfold aL;rw[if_pos hv,if_pos hvl];simp only[if_true];rw[s2];have:0<s.length:=List.length_pos_iff.2 s1;refine⟨by simp;omega,?_⟩;rw[<-List.append_assoc,List.take_left'];rfl
structure PathQ (E:List Ent):Prop where
 ne:∀ i k,k<i->i<E.length->(E.getD i eZ).path≠(E.getD k eZ).path
 sh:∀ i,(E.getD i eZ).path.length<1000
 up:∀ i,0<i->i<E.length->∃ j:Nat,j<i/\(E.getD i eZ).par=(j:Int)/\(E.getD j eZ).path.length<(E.getD i eZ).path.length/\(E.getD i eZ).path.take (E.getD j eZ).path.length=(E.getD j eZ).path
theorem PathQ.gro {p:List Nd} {num:Int} {m:Nat} {E E':List Ent} (h:Gro p num m E E') (hE:PathQ E):PathQ E':=by
 induction h with
 |refl=>exact hE
 | @add E0 E1 E2 i sc q hi h _ ih=>
   refine ih ?_;obtain⟨ab,c,hp,hc,rfl⟩:=h.up;have hnew:=qP h.new;unfold gX at hc
   obtain⟨k,hk1,hk2⟩:∃ k,ixP 0 E0 (aL ab)=some k/\c=(k:Int):=by
    cases e:ixP 0 E0 (aL ab) with
    |none=>rw[e] at hc;cases hc
    |some k=>
     rw[e] at hc;simp only at hc;split at hc
     ·cases hc;exact⟨k,rfl,rfl⟩
     ·cases hc
   obtain⟨_,k1,k2⟩:=iS hk1;rw[Nat.sub_zero] at k2;obtain⟨r1,r2⟩:=sP hp
   have hlast:(E0++[dG (aL q) (p.getD i dN).op c num i]).getD E0.length eZ=dG (aL q) (p.getD i dN).op c num i:=by simp
   refine⟨fun a b hab ha=>?_,fun a=>?_,fun a ha0 ha=>?_⟩
   ·rw[List.length_append,List.length_singleton] at ha
    rcases Nat.lt_or_ge a E0.length with e|e
    ·rw[bG e,bG (by omega)];exact hE.ne a b hab e
    ·obtain rfl:a=E0.length:=by omega
     rw[hlast,bG hab];have:=hnew (E0.getD b eZ) (by rw[List.getD_eq_getElem?_getD,List.getElem?_eq_getElem hab];exact List.getElem_mem hab)
     exact fun e=>this e.symm
   ·rcases Nat.lt_trichotomy a E0.length with e|e|e
    ·rw[bG e];exact hE.sh a
    ·subst e;rw[hlast];have:=wG q;show (aL q).length<1000;omega
    ·rw[List.getD_eq_getElem?_getD,List.getElem?_eq_none (by simp;omega)];decide
   ·rw[List.length_append,List.length_singleton] at ha
    rcases Nat.lt_or_ge a E0.length with e|e
    ·obtain⟨j,j1,j2⟩:=hE.up a ha0 e
     exact⟨j,j1,by rw[bG e,bG (by omega)];exact j2⟩
    ·obtain rfl:a=E0.length:=by omega
     refine⟨k,by omega,?_⟩;rw[hlast,bG (by omega),k2];exact⟨hk2,r1,r2⟩
 | @spec E0 E2 j y hm hj hs _ ih=>
   refine ih ?_
   have hpath:∀ a,((E0.set j y).getD a eZ).path=(E0.getD a eZ).path:=fun a=>by
    rw[iW hj];split
    ·rename_i e;subst e;exact hs.1
    ·rfl
   have hpar:∀ a,((E0.set j y).getD a eZ).par=(E0.getD a eZ).par:=fun a=>by
    rw[iW hj];split
    ·rename_i e;subst e;exact hs.2.2.1
    ·rfl
   refine⟨fun a b hab ha=>?_,fun a=>by rw[hpath];exact hE.sh a,fun a ha0 ha=>?_⟩
   ·rw[hpath,hpath];exact hE.ne a b hab (by rw[List.length_set] at ha;exact ha)
   ·obtain⟨j',j1,j2⟩:=hE.up a ha0 (by rw[List.length_set] at ha;exact ha)
    exact⟨j',j1,by rw[hpath,hpath,hpar];exact j2⟩
theorem yj:PathQ E0:=by
 refine⟨fun i k hk hi=>?_,fun i=>?_,fun i h0 hi=>?_⟩
 ·match i,k,hk,hi with
  |1,0,_,_=>decide
  |2,0,_,_=>decide
  |2,1,_,_=>decide
  |0,k,h,_=>omega
  |1,k+1,h,_=>omega
  |2,k+2,h,_=>omega
  |i+3,k,_,h=>exact absurd h (by show ¬i+3<3;omega)
 ·match i with
  |0=>decide
  |1=>decide
  |2=>decide
  |i+3=>exact (by decide:([]:By).length<1000)
 ·match i,h0,hi with
  |1,_,_=>exact⟨0,by decide,rfl,by decide,rfl⟩
  |2,_,_=>exact⟨0,by decide,rfl,by decide,rfl⟩
  |i+3,_,h=>exact absurd h (by show ¬i+3<3;omega)
structure NsOK (E:List Ent) (T:List Tb):Prop where
 n3:3<=E.length
 n1:E.length<=1024
 q:PathQ E
 reg:RegE T E
 bit:BitO E
theorem Gx:NsOK E0 []:=⟨by decide,by decide,yj,mU,nr⟩
theorem LoadR.ns {p:List Nd} {E E':List Ent} {T T':List Tb} {z e:Int} (h:LoadR p E T E' T' z e) (hE:NsOK E T):NsOK E' T'/\T'.length<=T.length+1:=by
 rcases h.o with ⟨_,_,rfl,rfl⟩|⟨_,_,rs,rfl,_,g,_,hr,hb⟩
 ·exact⟨hE,by omega⟩
 ·exact⟨⟨Nat.le_trans hE.n3 g.len,g.small hE.n1,PathQ.gro g hE.q,hr,hb⟩,by simp⟩
theorem NsOK.pi {E:List Ent} {T:List Tb} (h:NsOK E T):PathI E:=⟨h.n3,h.n1,h.q.ne,h.q.sh,fun i h0 hi=>by
 obtain⟨j,j1,j2⟩:=h.q.up i h0 hi
 exact⟨j,by omega,j2⟩⟩
theorem EE (l1 l2:List Int) (p1 p2:List Nd) (hw1:wfN p1) (hI1:wfI p1) (hw2:wfN p2) (hI2:wfI p2) (hg1:FC Tryz.prog 14 [.s (chF l1)] 0 [] (ae p1) 0 []) (hg2:FC Tryz.prog 28 [.s (chF l2)] 0 [] (ae p2) 0 []):
 FC Tryz.prog 5 [.s (chF l1),.s (chF l2)] 0 [] (bV true) 0 []:=by
 obtain⟨E1,T1,z1,e1,h1⟩:=yW p1 hw1 hI1 E0 [] (by decide) mU nr;obtain⟨n1,t1⟩:=h1.ns Gx;obtain⟨E2,T2,z2,e2,h2⟩:=yW p2 hw2 hI2 E1 T1 (by simp only[List.length_nil] at t1;omega) n1.reg n1.bit;exact EC l1 l2 p1 p2 hg1 hg2 py E1 E2 T1 T2 z1 e1 z2 e2 h1 h2 (h2.ns n1).1.pi
end Go.Proofs.YtegjgpldfgjoiaaGreatDoor
namespace Go.Proofs.YtegjgpldfgjoiaaGreatDoor
open Go Ab
open Go.ChangeShapes Go.WideShapes Go.ChangeAt Go.RowKit
set_option maxRecDepth 100000
theorem own:ownKnob Tryz.prog.godebug=none:=by kernel_rfl
theorem iN:laidOutB Tryz.prog=true:=by kernel_rfl
theorem eH {H:Type} {enc:TypeId×Value->H} {a:Assume} {C:Checked} {os:Os} {f:FuncId} {fn:Func} {s:ChangeSpec} {conds:List PathCond} {apart fresh handsOn again:Bool} {X:World->Array Value->Prop}
 (hX:∀ (w w':World) (args:Array Value),w.heap=w'.heap->X w args->X w' args)
 (own:ownKnob C.prog.godebug=none) (started:os.Started) (noInit:C.prog.inits.idxOf? f=none) (hfn:C.prog.funcs[f]? =some fn)
 (witness:∃ (w:World) (tape:Tape) (i:Input),w.os=os/\(w.forCall tape i).Shaped C.prog/\i.vars=[]/\Input.okWide C.prog (w.forCall tape i) .any w.heap.size f i/\
   ((s.pre enc C.prog fn conds apart (w.forCall tape i).memory i.args/\X (w.forCall tape i).memory i.args)/\sizedMet enc C.prog fn (OpenSpec.ofChange s) apart (w.forCall tape i).memory i.args)/\a.holds C.prog (lone (Frame.enter C.prog f i.args .normal) [] (w.forCall tape i)))
 (contract:∀ (W:World) (base:Nat) (args:Array Value) (ds gs:List (DataW H)) (before:List MemPlace),W.ShapedOpen C.prog->
   (∀ (j:Nat) t v,fn.params[j]? =some t->args[j]? =some v->Value.okWide C.prog W .any base t v)->
   DataW.Whole enc C.prog fn.params.toList s.vars apart W args.toList ds gs before->
   conds.all (PathCond.test C.prog ⟨fn.params.toList,ds,s.plain.varTypes C.prog,gs⟩)=true->
   (DataW.weightsEach C.prog (fn.params.toList++s.plain.varTypes C.prog) (ds++gs)).all (·<=reachBytes)=true->X W args->
   a.holds C.prog (lone (Frame.enter C.prog f args .normal) [] W)->
   Calls C.prog f args W fun e W'=>∃ v,e=.returned v/\s.post enc C.prog fn apart fresh handsOn again W args v W'):
 ReturnsInHanded a C os f .any (fun w args=>(s.pre enc C.prog fn conds apart w args/\X w args)/\sizedMet enc C.prog fn (OpenSpec.ofChange s) apart w args) (s.post enc C.prog fn apart fresh handsOn again):=by
 refine returnsInHanded_of_calls own started noInit witness ?_;intro w tape i _ hsh _ hok hpre hholds;obtain⟨_,_,_,fn',hfn',_,_,_,_,hval⟩:=hok;have e:fn'=fn:=Option.some.inj (hfn'.symm.trans hfn);subst e;obtain⟨⟨⟨ds,gs,before,hw,hc⟩,hx⟩,hz⟩:=hpre;have hw':=DataW.Whole.of_heap (w':=w.forCall tape i) (by rfl) hw
 refine (contract (w.forCall tape i) w.heap.size i.args ds gs before hsh hval hw' hc (hz.weights hw) (hX _ _ _ (by rfl) hx) hholds).mono fun e W' ⟨v,he,hp⟩=>?_
 subst he;exact ChangeSpec.post_blind hp
theorem SC.law {P:Program} {f:FuncId} {args:List V} {n:Nat} {L:Hp} {n':Nat} {L':Hp} (h:SC P f args n L (.s (.bool true)) n' L') (hro:∀ i bl,lk L i=some bl->bl.ro=true) {φ:Ph} {xs:List Value} {w:World}
 (h1:All2 (Vr φ) args xs) (h2:Ab.Good φ L w) (h3:∀ i,n<=i->φ i=none):Calls P f xs.toArray w fun e w'=>e=.returned (.bool true)/\Below w.heap.size w w':=by
 refine Calls.mono (h φ xs w h1 h2 h3) ?_;rintro e w' ⟨φ',x,rfl,hv,_,_,st,_⟩;have hx:x=.bool true:=hv;refine⟨by rw[hx],st.os,st.tape,st.output,st.size,fun k hk=>st.keep k hk ?_⟩;rintro⟨i,bl,c,hl,_,_,hr⟩;rw[hro i bl hl] at hr;cases hr
theorem uh (s:ByteArray):Value.string s=.string ⟨s.data.toList.toArray⟩:=by cases s;simp
def vG {H:Type}:List (DataW H)->List S
 |[]=>[]
 | .agg [.lit (.string a),.lit (.string b)]::t=> .str a::.str b::vG t
 |_::t=>vG t
theorem nq:Tryz.prog.cellsOf 293=2:=by kernel_rfl
theorem FV:Tryz.prog.cellsOf 9=1:=by kernel_rfl
theorem vT {H:Type} {enc:TypeId×Value->H} {w:World} {base:Nat} {spare:Nat->Bool} {held:Bool} {fuel:Nat} {cs:List Value} {x:DataW H×List MemPlace} (h:DataW.trod enc Tryz.prog w base spare held fuel 293 cs=some x):
 ∃ a b:List UInt8,cs=[.string ⟨a.toArray⟩,.string ⟨b.toArray⟩]/\x.1=.agg [.lit (.string a),.lit (.string b)]:=by
 obtain⟨xs,m,rfl,rfl,hlen,hn,hf⟩:=DataW.trod_struct Tryz.underlying293 h;rw[nq] at hlen
 match cs,hlen with
 |[c0,c1],_=>
  have f0:=hf 0 _ rfl;have f1:=hf 1 _ rfl;change DataW.trod enc Tryz.prog w base spare held m 9 (([c0,c1].drop 0).take (Tryz.prog.cellsOf 9))=_ at f0;change DataW.trod enc Tryz.prog w base spare held m 9 (([c0,c1].drop 1).take (Tryz.prog.cellsOf 9))=_ at f1;rw[FV] at f0 f1;have hn:xs.length=2:=hn
  match xs,hn with
  |[x0,x1],_=>
   obtain⟨s0,e0,e0',_⟩:=DataW.trod_string Tryz.underlying9 f0;obtain⟨s1,e1,e1',_⟩:=DataW.trod_string Tryz.underlying9 f1;simp at e0 e1;subst e0;subst e1;refine⟨s0.data.toList,s1.data.toList,by rw[<-uh,<-uh],?_⟩;simp[e0',e1']
theorem lm {H:Type} {enc:TypeId×Value->H} {w:World} {base:Nat} {spare:Nat->Bool} {held:Bool} {m:Nat} {φ:Ph}:∀ (xs:List (DataW H×List MemPlace)) (cs:List Value),cs.length=xs.length*2->(∀ i,i<xs.length->DataW.trod enc Tryz.prog w base spare held m 293 ((cs.drop (i*2)).take 2)=xs[i]?)->
 All2 (Sr φ) (vG (xs.map (·.1))) cs
 |[],[],_,_=>trivial
 |[],_::_,h,_=>by simp at h
 |x::xs,[],h,_=>by simp at h
 |x::xs,[_],h,_=>by simp at h;omega
 |x::xs,c0::c1::cs,h,hf=>by
  have h0:=hf 0 (by simp);simp at h0;obtain⟨a,b,e,ex⟩:=vT h0;simp only[List.cons.injEq,and_true] at e;obtain⟨rfl,rfl⟩:=e
  have ih:=lm (φ:=φ) xs cs (by simp at h;omega) (fun i hi=>by
   have:=hf (i+1) (by simp;omega);rw[show (i+1)*2=(i*2)+1+1 by omega] at this
   simpa using this)
  simp only[List.map_cons,ex,vG];exact⟨rfl,rfl,ih⟩
theorem sB {H:Type} {enc:TypeId×Value->H} {w:World} {base:Nat} {spare:Nat->Bool} {held:Bool} {fuel:Nat} {t N:Nat} {cs:List Value} {d:DataW H} {p:List MemPlace} (ht:Tryz.prog.underlying t=some (.array N 293)) (hc:Tryz.prog.cellsOf t=N*2) (h:DataW.trod enc Tryz.prog w base spare held fuel t cs=some (d,p)) (φ:Ph):
 ∃ ds,d=.agg ds/\All2 (Sr φ) (vG ds) cs:=by
 obtain⟨xs,m,rfl,hx,hlen,hn,hf⟩:=DataW.trod_array ht h;simp only[Prod.mk.injEq] at hx;refine⟨_,hx.1,lm (enc:=enc) (w:=w) (base:=base) (spare:=spare) (held:=held) (m:=m) xs cs (by rw[hlen,hc,hn]) (fun i hi=>?_)⟩;have:=hf i (by omega)
 rwa [nq] at this
def zW (W:World):Nat->Option (List Value):=fun b=>match W.heap[b]? with|some (.cells a _ _)=>some a.toList|_=>none
def phW (W:World):Ph:=⟨fun _=>none,zW W⟩
theorem ll {W:World} (h:GzOK (zW W)):Ab.Good (phW W) [] W:=by
 refine⟨fun i bl hi=>(by cases hi),fun i j bl bl' b b' hi=>(by cases hi),fun b l hb=>⟨?_,fun hw=>?_⟩,h⟩
 ·have hb:zW W b=some l:=hb
  unfold zW at hb;split at hb
  ·rename_i a ty fr he;cases hb;exact⟨ty,fr,by simpa using he⟩
  ·cases hb
 ·obtain⟨i,bl,c,hi,_⟩:=hw;cases hi
theorem yH:∀ i bl,lk ([]:Hp) i=some bl->bl.ro=true:=fun i bl h=>by cases h
theorem Bb {W:World} {b o:Nat} {v:Value} (h:W.cell? ⟨b,o,none⟩=some v):∃ vs,zW W b=some vs/\vs[o]? =some v:=by
 unfold World.cell? at h;split at h
 ·rename_i arr ty fr hb
  refine⟨arr.toList,by unfold zW;rw[hb],?_⟩
  simpa using h
 ·cases h
instance:Inhabited Nd:=⟨dN⟩
theorem DC (b off k:Nat):(⟨b,off,none⟩:Addr).add k=⟨b,off+k,none⟩:=by
 unfold Addr.add;split
 ·rename_i h;subst h;rfl
 ·rfl
theorem FU:Tryz.prog.cellsOf 3=1:=by kernel_rfl
theorem FX:Tryz.prog.bytesOf 3=8:=by kernel_rfl
section
variable {H:Type} {enc:TypeId×Value->H} {W:World} {base:Nat} {held:Bool}
theorem eN {r:Reach} {b0:Nat} {v:Value} {d:DataW H} {p:List MemPlace} (hv:Value.okWide Tryz.prog W r b0 22 v) (h:DataW.Trod enc Tryz.prog W base (fun _=>true) held 22 v d p) (hw:(d.weights Tryz.prog 22).all (·<=reachBytes)=true):
 ∃ l:List Int,Vr (phW W) (.s (chF l)) v/\l.length<=20000000000000:=by
 obtain⟨a0,len0,cap0,rfl⟩:=okWide_slice Tryz.underlying22 hv;obtain⟨fuel,hf⟩:=h
 rcases Go.Deep.open_slice1 Tryz.underlying22 FU hf with ⟨hcs,_⟩|⟨a,len,cap,m,n,V,D,Pl,hcs,_,hl,_,hm,hd,hx⟩
 ·simp[Value.cells] at hcs
  obtain⟨rfl,rfl,rfl⟩:=hcs;exact⟨[],.nil _ _ _ _ (fun _=>rfl),by simp⟩
 ·simp[Value.cells] at hcs
  obtain⟨rfl,rfl,rfl⟩:=hcs;simp only[if_true] at hm;subst hm
  have hcap:m<=20000000000000:=by
   have e:d=.slice ((List.range len0).map D) ((List.range (m-len0)).map fun j=>D (len0+j)):=congrArg Prod.fst hd;rw[e] at hw;unfold DataW.weights at hw;rw[Tryz.underlying22] at hw;simp only[List.all_cons,Bool.and_eq_true,decide_eq_true_eq,List.length_map,List.length_range,FX] at hw;have:=hw.1;unfold reachBytes at this;omega
  have each:∀ i,i<m->∃ z:Int,W.cell? (a.add i)=some (.int .i64 z):=by
   intro i hi;obtain⟨h1,h2⟩:=hx i hi;obtain⟨z,e1,_,w1⟩:=DataW.trod_int Tryz.underlying3 h2;simp only[List.cons.injEq,and_true] at e1;exact⟨z,by rw[h1,e1]⟩
  obtain⟨f,hfq⟩:=Go.Deep.choose_lt each;refine⟨(List.range len0).map f,?_,by simp;omega⟩;unfold chF;rw[show ((List.range len0).map f).length=len0 by simp];by_cases h0:len0=0
  ·subst h0
   exact .nil _ _ _ _ (fun e=>by cases e)
  obtain⟨b,off,spot⟩:=a
  have hspot:spot=none:=by simpa [Addr.add] using World.cell?_spot (hfq 0 (by omega))
  subst hspot
  have hc:∀ i,i<m->W.cell? ⟨b,off+i,none⟩=some (.int .i64 (f i)):=fun i hi=>by
   have:=hfq i hi
   rwa [DC] at this
  obtain⟨vs,hz,_⟩:=Bb (hc 0 (by omega));refine .frz _ 1 len0 b off m vs hz hl (fun i _=> .int .i64 (f i)) (fun _ _=>rfl) (fun i j x hi hj=>?_) (fun i j x hi hj=>?_)
  ·cases j with
   |succ j=>simp at hj
   |zero=>
    obtain⟨vs',hz',h3⟩:=Bb (hc i (by omega));rw[hz] at hz';cases hz';rw[Nat.mul_one,Nat.add_zero];exact h3
  ·cases j with
   |succ j=>simp at hj
   |zero=>
    simp only[List.getElem?_cons_zero,Option.some.injEq] at hj;subst hj;rw[show ((List.range len0).map f).getD i 0=f i by rw[List.getD_eq_getElem?_getD,List.getElem?_map,List.getElem?_range hi];rfl];exact .int _ _
end
set_option maxRecDepth 100000
theorem row0:(((begin Tryz.prog (fun _ _=>0) default).world.heap[1]?).bind Obj.row?).map (·.2)=some 301:=by kernel_rfl
theorem gty0:(Tryz.prog.globals[1]?).map (·.type)=some 301:=by kernel_rfl
theorem gcl0:Tryz.prog.cellsOf 301=12*2:=by kernel_rfl
theorem row1:(((begin Tryz.prog (fun _ _=>0) default).world.heap[2]?).bind Obj.row?).map (·.2)=some 302:=by kernel_rfl
theorem gty1:(Tryz.prog.globals[2]?).map (·.type)=some 302:=by kernel_rfl
theorem gcl1:Tryz.prog.cellsOf 302=13*2:=by kernel_rfl
theorem row2:(((begin Tryz.prog (fun _ _=>0) default).world.heap[3]?).bind Obj.row?).map (·.2)=some 303:=by kernel_rfl
theorem gty2:(Tryz.prog.globals[3]?).map (·.type)=some 303:=by kernel_rfl
theorem gcl2:Tryz.prog.cellsOf 303=29*2:=by kernel_rfl
theorem wD {W:World} (hS:W.ShapedOpen Tryz.prog) {g t:Nat} (hg:g<6) (hr:(((begin Tryz.prog (fun _ _=>0) default).world.heap[g]?).bind Obj.row?).map (·.2)=some t):∃ cs,W.heap[g]? =some (.cells cs t (0,0)):=by
 cases hq:((begin Tryz.prog (fun _ _=>0) default).world.heap[g]?).bind Obj.row? with
 |none=>rw[hq] at hr;cases hr
 |some x=>
  obtain⟨z,t'⟩:=x;rw[hq] at hr;simp only[Option.map_some,Option.some.injEq] at hr;subst hr;obtain⟨cs,h1,_⟩:=hS.1 g z t' (Nat.lt_of_lt_of_le hg (by decide+kernel)) hq;exact⟨cs,h1⟩
theorem Bq {φ:Ph}:∀ {l:List S} {xs:List Value},All2 (Sr φ) l xs->l.all aY=true->All2 (Pr φ.z) l xs
 |[],[],_,_=>trivial
 |[],_::_,h,_=>h.elim
 |_::_,[],h,_=>h.elim
 |a::l,x::xs,h,hp=>by
  rw[List.all_cons,Bool.and_eq_true] at hp;exact⟨h.1.pr hp.1,Bq h.2 hp.2⟩
theorem oZ {W:World} (hS:W.ShapedOpen Tryz.prog) {name:String} {i ty N:Nat} {d:DataW Unit} {ds:List (DataW Unit)} {l:List (String×DataW Unit)} {ps:List MemPlace} {cs0:List S} (hv:DataW.LaidVars Tryz.prog W ((name,d)::l) ps) (hi:i<6)
 (hr:(((begin Tryz.prog (fun _ _=>0) default).world.heap[i]?).bind Obj.row?).map (·.2)=some ty) (hn:Tryz.prog.globalNamed name=some i) (ht:(Tryz.prog.globals[i]?).map (·.type)=some ty) (hu:Tryz.prog.underlying ty=some (.array N 293)) (hc:Tryz.prog.cellsOf ty=N*2)
 (hd:d=.agg ds) (h0:vG ds=cs0) (hp:cs0.all aY=true):∃ vs,zW W i=some vs/\All2 (Pr (zW W)) cs0 vs:=by
 obtain⟨g,t,cs,fuel,p,q,h1,h2,h3,h4,_⟩:=hv;rw[hn] at h1;cases h1;rw[ht] at h2;cases h2;obtain⟨cs',h5⟩:=wD hS hi hr
 have:cs=cs':=by
  simp only[World.var?,hn,Option.bind_some,h5,Option.some.injEq] at h3;exact h3.symm
 subst this;obtain⟨ds',e,hall⟩:=sB hu hc h4 (phW W);rw[hd] at e;cases e;refine⟨cs.toList,by unfold zW;rw[h5],?_⟩;rw[h0] at hall;exact Bq (φ:=phW W) hall hp
theorem ij {W:World} (hS:W.ShapedOpen Tryz.prog) (hL:laidMet Tryz.prog Rows.namespacePathsUniqueRow.laid W):GzOK (zW W):=by
 obtain⟨ps,hv,_⟩:=hL;obtain⟨_,_,_,_,_,q0,_,_,_,_,hv1,_⟩:=hv;have b0:=oZ hS (ty:=301) (N:=12) (cs0:=(GS 1).getD []) hv1 (by decide) row0 (by kernel_rfl) gty0 Tryz.underlying301 gcl0 rfl (by kernel_rfl) (by kernel_rfl);obtain⟨_,_,_,_,_,q1,_,_,_,_,hv2,_⟩:=hv1;have b1:=oZ hS (ty:=302) (N:=13) (cs0:=(GS 2).getD []) hv2 (by decide) row1 (by kernel_rfl) gty1 Tryz.underlying302 gcl1 rfl (by kernel_rfl) (by kernel_rfl);obtain⟨_,_,_,_,_,q2,_,_,_,_,hv3,_⟩:=hv2;have b2:=oZ hS (ty:=303) (N:=29) (cs0:=(GS 3).getD []) hv3 (by decide) row2 (by kernel_rfl) gty2 Tryz.underlying303 gcl2 rfl (by kernel_rfl) (by kernel_rfl);intro g cs hg
 match g,hg with
 |0,hg=>cases hg
 |1,hg=>rw[hg] at b0;exact b0
 |2,hg=>rw[hg] at b1;exact b1
 |3,hg=>rw[hg] at b2;exact b2
 |g+4,hg=>cases hg
end Go.Proofs.YtegjgpldfgjoiaaGreatDoor
namespace Go.Proofs.YtegjgpldfgjoiaaGreatDoor
open Go Ab
set_option maxRecDepth 100000
set_option maxHeartbeats 1000000
def tree (op n:Int) (s:By) (K:List (List Nd)):List Nd:=⟨op,n,s,K.length⟩::K.flatten
structure OKr (B:Nat) (r:List Nd):Prop where
 ne:r≠[]
 len:r.length<=B
 wf:∀ x∈r,x.str.length<=1000/\0<=x.int
theorem OKr.le {B C:Nat} {r:List Nd} (h:OKr B r) (hbc:B<=C):OKr C r:=⟨h.ne,Nat.le_trans h.len hbc,h.wf⟩
theorem eA {B:Nat}:∀ {K:List (List Nd)},(∀ r∈K,OKr B r)->K.flatten.length<=K.length*B
 |[],_=>by simp
 |r::K,h=>by
  have h1:=(h r (List.mem_cons_self ..)).len
  have h2:=eA (K:=K) fun q hq=>h q (List.mem_cons_of_mem _ hq)
  simp only[List.flatten_cons,List.length_append,List.length_cons];rw[Nat.add_mul,Nat.one_mul];omega
theorem OKr.tree {B C:Nat} {op n:Int} {s:By} {K:List (List Nd)} (hK:∀ r∈K,OKr B r) (hn:0<=n) (hs:s.length<=1000) (hC:1+K.length*B<=C):OKr C (tree op n s K):=by
 refine⟨by simp[Go.Proofs.YtegjgpldfgjoiaaGreatDoor.tree],?_,fun x hx=>?_⟩
 ·have:=eA hK
  simp only[Go.Proofs.YtegjgpldfgjoiaaGreatDoor.tree,List.length_cons];omega
 ·rcases List.mem_cons.1 hx with rfl|hx
  ·exact⟨hs,hn⟩
  ·obtain⟨r,hr,hxr⟩:=List.mem_flatten.1 hx
   exact (hK r hr).wf x hxr
theorem sT (op n:Int) (s:By) (K:List (List Nd)) {B:Nat} (hK:∀ r∈K,OKr B r) (hB:K.length*B<=1000000000000) (hk:K.length<=4096):
 FC Tryz.prog 103 [nI op,.s (.int .u64 n),sV s,.s (bg K)] 0 [] (ae (tree op n s K)) 0 []:=
 E8 op n s K (fun r hr=>(hK r hr).ne) (Nat.le_trans (eA hK) hB) hk
theorem sY (op n:Int) (s:By):FC Tryz.prog 103 [nI op,.s (.int .u64 n),sV s,.s (bg [])] 0 [] (ae (tree op n s [])) 0 []:=
 sT op n s [] (B:=0) (fun r hr=>by cases hr) (by simp) (by simp)
theorem OKr.leaf {op n:Int} {s:By} (hn:0<=n) (hs:s.length<=1000):OKr 1 (Go.Proofs.YtegjgpldfgjoiaaGreatDoor.tree op n s []):=
 OKr.tree (B:=0) (fun r hr=>by cases hr) hn hs (by simp)
theorem uM (n:Int):FC Tryz.prog 58 [.s (.int .u64 n)] 0 [] (ae (tree 1 n [] [])) 0 []:=by
 have h:=sY 1 n [];refine FC.walk (by kernel_rfl) Tryz.func58 rfl rfl ?_
 repeat'(first|exact y0|refine y1 ?_|refine y2 ?_ ?_|(refine y8 ?_ ?_<;>intro h<;>try exact y6)|(refine wC ?_;first|(refine wF 103 ?_;refine CallG.we h rfl ⟨VLe.refl _,VLe.refl _,VLe.refl _,VLe.s SLe.nil,trivial⟩ rfl rfl rfl ?_))|refine Fin.le (.inl rfl) rfl (VLe.refl _) rfl|refine y3 ?_|refine y7 ?_ ?_|refine y4 ?_|(refine y9 ?_ ?_<;>intro h)|exact y5|fail)
theorem qr (s:By):FC Tryz.prog 56 [sV s] 0 [] (ae (tree 3 0 s [])) 0 []:=by
 have h:=sY 3 0 s;refine FC.walk (by kernel_rfl) Tryz.func56 rfl rfl ?_
 repeat'(first|exact y0|refine y1 ?_|refine y2 ?_ ?_|(refine y8 ?_ ?_<;>intro h<;>try exact y6)|(refine wC ?_;first|(refine wF 103 ?_;refine CallG.we h rfl ⟨VLe.refl _,VLe.refl _,VLe.refl _,VLe.s SLe.nil,trivial⟩ rfl rfl rfl ?_))|refine Fin.le (.inl rfl) rfl (VLe.refl _) rfl|refine y3 ?_|refine y7 ?_ ?_|refine y4 ?_|(refine y9 ?_ ?_<;>intro h)|exact y5|fail)
theorem yG (op:Int) (K:List (List Nd)) {B:Nat} (hK:∀ r∈K,OKr B r) (hB:K.length*B<=1000000000000) (hk:K.length<=4096):
 FC Tryz.prog 55 [nI op,.s (bg K)] 0 [] (ae (tree op 0 [] K)) 0 []:=by
 have h:=sT op 0 [] K hK hB hk;generalize tree op 0 [] K=T at*;unfold bg at*;refine FC.walk (by kernel_rfl) Tryz.func55 rfl rfl ?_
 repeat'(first|exact y0|refine y1 ?_|refine y2 ?_ ?_|(refine y8 ?_ ?_<;>intro h<;>try exact y6)|(refine wC ?_;first|refine wF 103 (pu h ?_))|refine Fin.le (.inl rfl) rfl (VLe.refl _) rfl|refine y3 ?_|refine y7 ?_ ?_|refine y4 ?_|(refine y9 ?_ ?_<;>intro h)|exact y5|fail)
set_option maxRecDepth 100000
set_option maxHeartbeats 1000000
theorem bE {K:List (List Nd)} {k j:Nat} {x:S} (hk:k<K.length) (hx:[nS (K.getD k [])][j]? =some x):(K.map fun r=>nS r)[k*1+j]? =some x/\aY x=true:=by
 cases j with
 |succ j=>simp at hx
 |zero=>
  simp only[List.getElem?_cons_zero,Option.some.injEq] at hx;subst hx;rw[Nat.mul_one,Nat.add_zero,List.getElem?_map,List.getElem?_eq_getElem hk,List.getD_eq_getElem?_getD,List.getElem?_eq_getElem hk];exact⟨rfl,rfl⟩
theorem bF (n:Int) (h:0<=n):∃ r,OKr 1 r/\FC Tryz.prog 58 [.s (.int .u64 n)] 0 [] (ae r) 0 []:=⟨_,OKr.leaf h (by simp),uM n⟩
theorem aZ (s:By) (h:s.length<=1000):∃ r,OKr 1 r/\FC Tryz.prog 56 [sV s] 0 [] (ae r) 0 []:=⟨_,OKr.leaf (by decide) h,qr s⟩
theorem au (op:Int) (K:List (List Nd)) {B:Nat} (C:Nat) (hK:∀ r∈K,OKr B r) (hB:K.length*B<=1000000000000) (hk:K.length<=4096) (hC:1+K.length*B<=C):
 ∃ r,OKr C r/\FC Tryz.prog 55 [nI op,.s (bg K)] 0 [] (ae r) 0 []:=⟨_,OKr.tree hK (by decide) (by simp) hC,yG op K hK hB hk⟩
theorem yg (l:List Int) (hl:l.length<=20000000000000) (i:Nat) (hi:i<=l.length) (s:By) (hs:s.length<=1000):
 ∃ (r:List Nd) (i':Nat),OKr 5 r/\i'<=l.length/\FC Tryz.prog 60 [cP,sV s] 1 (chL l i) (ae r) 1 (chL l i'):=by
 obtain⟨k,i1,hk,hi1,c1⟩:=am l hl 3 (by decide) (by decide) i hi;obtain⟨m,i2,hm2,hi2,c2⟩:=am l hl 4 (by decide) (by decide) i1 hi1;obtain⟨q,i3,hq,hi3,c3⟩:=am l hl 32 (by decide) (by decide) i2 hi2
 obtain⟨sp,hsp0,hsp⟩:∃ sp:Int,0<=sp/\sp=(if k=0 then 0 else if k=1 then 1 else 3):=⟨_,by split<;>(try split)<;>decide,rfl⟩
 obtain⟨r1,o1,d1⟩:=aZ s hs;obtain⟨r2,o2,d2⟩:=bF sp hsp0;obtain⟨r3,o3,d3⟩:=bF (8*m) (by omega);obtain⟨r4,o4,d4⟩:=bF (16+q) (by omega);obtain⟨r,o,dn⟩:=au 15 [r1,r2,r3,r4] (B:=1) 5 (by simp[o1,o2,o3,o4]) (by simp) (by simp) (by simp);unfold bg at dn;refine⟨r,i3,o,hi3,?_⟩
 rcases (by omega:k=0\/k=1\/k=2) with rfl|rfl|rfl
 all_goals
  subst hsp;refine FC.walk (by kernel_rfl) Tryz.func60 rfl rfl ?_
  repeat'(first|exact y0|refine y1 ?_|refine y2 ?_ ?_|(refine y8 ?_ ?_<;>intro h<;>try exact y6)|(refine wC ?_;first|refine wF 18 (cm c1 ?_)|refine wF 18 (cm c2 ?_)|refine wF 18 (cm c3 ?_)|refine wF 56 (pu d1 ?_)|refine wF 58 (pu d2 ?_)|refine wF 58 (pu d3 ?_)|refine wF 58 (pu d4 ?_)|(refine wF 55 ?_;refine CallG.pz 25 (fun k=>[nS ([r1,r2,r3,r4].getD k [])]) 1 dn rfl rfl rfl rfl (fun _ _=>rfl) (fun k j x hk hx=>bE (K:=[r1,r2,r3,r4]) hk hx) rfl ⟨VLe.refl _,VLe.refl _,trivial⟩ rfl rfl rfl ?_))|refine y3 ?_|refine y7 ?_ ?_|refine y4 ?_|(refine y9 ?_ ?_<;>intro h)|exact y5|fail)
  all_goals first
   |exact⟨.inl rfl,_,[],VLe.refl _,EndOK.by rfl ⟨rfl,trivial⟩ rfl rfl rfl rfl⟩
   |omega
   |exact ac (by omega) (by omega)
   |exact aa (by omega) (by omega)
end Go.Proofs.YtegjgpldfgjoiaaGreatDoor
