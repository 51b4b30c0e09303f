import Derived.Test.YtegjgpldfgjoiaaGreatDoorCnB33
set_option linter.unusedSimpArgs false
set_option linter.unusedVariables false
namespace Go.Proofs.YtegjgpldfgjoiaaGreatDoor
open Go Ab
set_option maxRecDepth 100000
set_option maxHeartbeats 1000000
abbrev iO (g:Nat) (K:List (List Nd)):Option Bl:=opB 32 (g+1) 1 (K.map fun r=>nS r)
inductive BufT (l:List Int):Nat->Nat->List (List Nd)->Nat->Prop
 |nil (i:Nat):BufT l 0 i [] i
 |cons {n i k i1 i':Nat} {r:List Nd} {K:List (List Nd)} (hk:k<256) (hi1:i1<=l.length) (c:FC Tryz.prog 18 [cP,nI (256:Nat)] 1 (chL l i) (nI k) 1 (chL l i1))
  (o:OKr 1 r) (d:FC Tryz.prog 58 [.s (.int .u64 k)] 0 [] (ae r) 0 []) (t:BufT l n i1 K i'):BufT l (n+1) i (r::K) i'
theorem Dr {l:List Int} {n i i':Nat} {K:List (List Nd)} (h:BufT l n i K i'):K.length=n:=by
 induction h with
 |nil i=>rfl
 |cons _ _ _ _ _ _ ih=>simp[ih]
theorem Er (l:List Int) (hl:l.length<=20000000000000):∀ (n i:Nat),i<=l.length->∃ K i',BufT l n i K i'/\i'<=l.length/\K.length=n/\∀ r∈K,OKr 1 r
 |0,i,hi=>⟨[],i,.nil i,hi,rfl,fun r hr=>by cases hr⟩
 |n+1,i,hi=>by
  obtain⟨k,i1,hk,hi1,c⟩:=am l hl 256 (by decide) (by decide) i hi;obtain⟨r,o,d⟩:=bF k (by omega);obtain⟨K,i',h1,h2,h3,h4⟩:=Er l hl n i1 hi1;refine⟨r::K,i',.cons hk hi1 c o d h1,h2,by simp[h3],fun q hq=>?_⟩
  rcases List.mem_cons.1 hq with rfl|hq
  ·exact o
  ·exact h4 q hq
theorem AR (l:List Int) (hl:l.length<=20000000000000) (dep:Int) (i i1:Nat) (hi1:i1<=l.length) (c1:FC Tryz.prog 18 [cP,nI (5:Nat)] 1 (chL l i) (nI (2:Nat)) 1 (chL l i1)):
 ∃ (r:List Nd) (i':Nat),OKr 10 r/\i'<=l.length/\FC Tryz.prog 62 [cP,nI dep] 1 (chL l i) (ae r) 1 (chL l i'):=by
 obtain⟨m,i2,hm2,hi2,c2⟩:=am l hl 4 (by decide) (by decide) i1 hi1;obtain⟨K,i3,hB,hi3,hKl,hK⟩:=Er l hl m i2 hi2;obtain⟨q,i4,hq,hi4,c4⟩:=am l hl 3 (by decide) (by decide) i3 hi3;obtain⟨r1,o1,d1⟩:=bF ((K.length:Int)+q) (by omega);obtain⟨r2,o2,d2⟩:=au 4 K (B:=1) 4 hK (by omega) (by omega) (by omega);obtain⟨r,o,dn⟩:=au 50 [r1,r2] (B:=4) 10 (by simp[o1.le,o2]) (by simp) (by simp) (by simp);unfold bg at dn d2;refine⟨r,i4,o,hi4,?_⟩
 have hsz:(Tryz.prog.types[32]).size=1:=by kernel_rfl
 have hby:(Tryz.prog.types[32]).bytes=24:=by kernel_rfl
 refine FC.walk (by kernel_rfl) Tryz.func62 rfl rfl ?_
 repeat'(first|exact y0|refine y1 ?_|refine y2 ?_ ?_|(refine y8 ?_ ?_<;>intro h<;>try exact y6)|(refine wC ?_;first|refine wF 18 (cm c1 ?_)|refine wF 18 (cm c2 ?_))|refine y3 ?_|refine y7 ?_ ?_|refine y4 ?_|(refine y9 ?_ ?_<;>intro h)|exact y5|fail)
 refine Ex.set 5 (.s (.row 1 2 0)) (VLe.s SLe.nilrow) rfl (Ex.upN (n':=3) (by omega) ?_)
 refine Ex.inv (σ:=Nat×Nat×List (List Nd)) (fun s=>[(5,.s (.row 1 2 s.2.2.length)),(6,nI s.1)]) (fun s=>[(0,some {cells:=[chF l,.int .i64 (s.2.1:Int)],ty:=97}),(1,iO 1 s.2.2)])
  (fun s=>∃ R,BufT l s.1 s.2.1 R i3/\s.2.2++R=K) (fun s=>s.1) (m,i2,[]) rfl (fun _=>rfl) ⟨K,hB,rfl⟩ ⟨VLe.refl _,VLe.refl _,trivial⟩ ⟨rfl,trivial⟩ ?_
 rintro⟨n,j,D⟩ ⟨R,hR,hD⟩;simp only at hR hD |-
 cases hR with
 |nil=>
  rw[List.append_nil] at hD;subst hD
  cases D with
  |nil=>
   repeat'(first|exact y0|refine y1 ?_|refine y2 ?_ ?_|(refine y8 ?_ ?_<;>intro h<;>try exact y6)|(refine wC ?_;first|refine wF 18 (cm c4 ?_)|refine wF 58 (pu d1 ?_)|(refine wF 55 ?_;refine CallG.we d2 rfl ⟨VLe.refl _,VLe.s SLe.row0,trivial⟩ rfl rfl rfl ?_)|(refine wF 55 ?_;refine CallG.pz 43 (fun k=>[nS ([r1,r2].getD k [])]) 1 dn rfl rfl rfl rfl (fun _ _=>rfl) (fun kk jj zz hk hx=>bE (K:=[r1,r2]) hk hx) rfl ⟨VLe.refl _,VLe.refl _,trivial⟩ rfl rfl rfl ?_))|exact ac (by omega) (by omega)|refine y3 ?_|refine y7 ?_ ?_|refine y4 ?_|(refine y9 ?_ ?_<;>intro h)|exact y5|fail)
   all_goals first
   |exact⟨.inl rfl,_,[],VLe.refl _,EndOK.by rfl ⟨rfl,trivial⟩ rfl rfl rfl rfl⟩
   |omega
   |exact ac (by omega) (by omega)
   |exact aa (by omega) (by omega)
   |exact ac (by simp;omega) (by simp;omega)
   |exact aa (by simp;omega) (by simp;omega)
  |cons x D=>
   repeat'(first|exact y0|refine y1 ?_|refine y2 ?_ ?_|(refine y8 ?_ ?_<;>intro h<;>try exact y6)|(refine wC ?_;first|refine wF 18 (cm c4 ?_)|refine wF 58 (pu d1 ?_)|(refine wF 55 ?_;refine CallG.pz 43 (fun k=>[nS ([r1,r2].getD k [])]) 1 dn rfl rfl rfl rfl (fun _ _=>rfl) (fun kk jj zz hk hx=>bE (K:=[r1,r2]) hk hx) rfl ⟨VLe.refl _,VLe.refl _,trivial⟩ rfl rfl rfl ?_)|(refine wF 55 ?_;refine CallG.pz 41 (fun k=>[nS ((x::D).getD k [])]) 1 d2 rfl rfl rfl rfl (fun _ _=>rfl) (fun kk jj zz hk hx=>bE (K:=(x::D)) hk hx) rfl ⟨VLe.refl _,VLe.refl _,trivial⟩ rfl rfl rfl ?_))|exact ac (by omega) (by omega)|refine y3 ?_|refine y7 ?_ ?_|refine y4 ?_|(refine y9 ?_ ?_<;>intro h)|exact y5|fail)
   all_goals first
   |exact⟨.inl rfl,_,[],VLe.refl _,EndOK.by rfl ⟨rfl,trivial⟩ rfl rfl rfl rfl⟩
   |omega
   |exact ac (by omega) (by omega)
   |exact aa (by omega) (by omega)
 | @cons n _ k j1 _ r' R' hk hj1 c oo d t=>
   have hRl:=Dr t
   have hlen:D.length+n<=2:=by rw[<-hKl,<-hD] at hm2;simp at hm2;omega
   repeat'(first|exact y0|refine y1 ?_|refine y2 ?_ ?_|(refine y8 ?_ ?_<;>intro h<;>try exact y6)|(refine wC ?_;first|refine wF 18 (cm c ?_)|refine wF 58 (pu d ?_))|exact ac (by omega) (by omega)|refine RegX.apr (i:=1) (g:=2) (m:=D.length) (w:=1) (cs:=D.map fun r=>nS r) (foot:=[3]) (k:=1) (add:=[nS r']) rfl rfl (by simp) rfl rfl rfl rfl rfl rfl rfl hsz (by decide) rfl ⟨Nat.le_refl _,rfl⟩ (by decide) (by simp) rfl (by rw[hby];omega) (by omega) rfl ?_|refine y3 ?_|refine y7 ?_ ?_|refine y4 ?_|(refine y9 ?_ ?_<;>intro h)|exact y5|fail)
   all_goals try first
    |exact aa (by push_cast;omega) (by push_cast;omega)
    |omega
   refine LoopR.move (n,j1,D++[r']) ⟨R',t,by simpa using hD⟩ (by simp only;omega) [0,4,5] rfl ?_ ?_ ?_
   ·repeat' (first|exact VLe.refl _|exact VLe.any _|exact True.intro|exact VLe.of_eq (congrArg nI (by push_cast;omega))|(refine VLe.of_eq (congrArg V.s (?_:S.row 4 5 _=S.row 4 5 _));simp;done)|refine⟨?_,?_⟩)
   ·refine⟨rfl,MemP.op ?_ trivial⟩
    rw[List.map_append];rfl
   ·exact (by unfold iO;generalize List.map _ _=cg;cases cg<;>rfl)
set_option maxRecDepth 100000
set_option maxHeartbeats 1000000
def BO (l:List Int) (dep:Int) (B:Nat):Prop:=∀ i,i<=l.length->∃ (r:List Nd) (i':Nat),OKr B r/\i'<=l.length/\FC Tryz.prog 62 [cP,nI dep] 1 (chL l i) (ae r) 1 (chL l i')
inductive PkT (l:List Int) (dep:Int) (B:Nat):Nat->Nat->List (List Nd)->Nat->Prop
 |nil (i:Nat):PkT l dep B 0 i [] i
 |name {n i i1 i2 i':Nat} {s:By} {r:List Nd} {K:List (List Nd)} (c:FC Tryz.prog 18 [cP,nI (3:Nat)] 1 (chL l i) (nI (2:Nat)) 1 (chL l i1))
  (c2:FC Tryz.prog 19 [cP] 1 (chL l i1) (sV s) 1 (chL l i2)) (d:FC Tryz.prog 56 [sV s] 0 [] (ae r) 0 []) (t:PkT l dep B n i2 K i'):PkT l dep B (n+1) i (r::K) i'
 |data {n i k i1 i2 i':Nat} {r:List Nd} {K:List (List Nd)} (hk: ¬(k:Int)=2) (c:FC Tryz.prog 18 [cP,nI (3:Nat)] 1 (chL l i) (nI k) 1 (chL l i1))
  (c2:FC Tryz.prog 62 [cP,nI dep] 1 (chL l i1) (ae r) 1 (chL l i2)) (t:PkT l dep B n i2 K i'):PkT l dep B (n+1) i (r::K) i'
theorem sM {l:List Int} {dep:Int} {B n i i':Nat} {K:List (List Nd)} (h:PkT l dep B n i K i'):K.length=n:=by
 induction h with
 |nil i=>rfl
 |name _ _ _ _ ih=>simp[ih]
 |data _ _ _ _ ih=>simp[ih]
theorem ET (l:List Int) (hl:l.length<=20000000000000) (dep:Int) (B:Nat) (hB:1<=B) (hd:BO l dep B):∀ (n i:Nat),i<=l.length->∃ K i',PkT l dep B n i K i'/\i'<=l.length/\∀ r∈K,OKr B r
 |0,i,hi=>⟨[],i,.nil i,hi,fun r hr=>by cases hr⟩
 |n+1,i,hi=>by
  obtain⟨k,i1,hk,hi1,c⟩:=am l hl 3 (by decide) (by decide) i hi;by_cases h2:k=2
  ·subst h2
   obtain⟨s,i2,hs,hi2,c2⟩:=jw l hl i1 hi1;obtain⟨r,o,d⟩:=aZ s (by omega);obtain⟨K,i',h1,h2,h4⟩:=ET l hl dep B hB hd n i2 hi2;refine⟨r::K,i',.name c c2 d h1,h2,fun q hq=>?_⟩
   rcases List.mem_cons.1 hq with rfl|hq
   ·exact o.le hB
   ·exact h4 q hq
  ·obtain⟨r,i2,o,hi2,c2⟩:=hd i1 hi1
   obtain⟨K,i',h1,h2,h4⟩:=ET l hl dep B hB hd n i2 hi2;refine⟨r::K,i',.data (by omega) c c2 h1,h2,fun q hq=>?_⟩
   rcases List.mem_cons.1 hq with rfl|hq
   ·exact o
   ·exact h4 q hq
theorem AP (l:List Int) (hl:l.length<=20000000000000) (dp B:Nat) (hdp:dp<=1000) (hB1:1<=B) (hB2:B<=100000) (hd:BO l dp B) (i i1:Nat) (hi1:i1<=l.length) (c1:FC Tryz.prog 18 [cP,nI (5:Nat)] 1 (chL l i) (nI (3:Nat)) 1 (chL l i1)):
 ∃ (r:List Nd) (i':Nat),OKr (10*B) r/\i'<=l.length/\FC Tryz.prog 62 [cP,nI (dp+1:Nat)] 1 (chL l i) (ae r) 1 (chL l i'):=by
 obtain⟨m,i2,hm2,hi2,c2⟩:=am l hl 4 (by decide) (by decide) i1 hi1;obtain⟨K,i3,hB,hi3,hK⟩:=ET l hl dp B hB1 hd m i2 hi2;have hKl:=sM hB;obtain⟨q,i4,hq,hi4,c4⟩:=am l hl 3 (by decide) (by decide) i3 hi3;obtain⟨r1,o1,d1⟩:=bF ((K.length:Int)+q) (by omega);have hKB:K.length*B<=3*B:=Nat.mul_le_mul_right B (by omega);obtain⟨r2,o2,d2⟩:=au 4 K (B:=B) (1+3*B) hK (by omega) (by omega) (by omega);obtain⟨r,o,dn⟩:=au 51 [r1,r2] (B:=1+3*B) (10*B) (by simp[o1.le (show 1<=1+3*B by omega),o2]) (by simp;omega) (by simp) (by simp;omega);unfold bg at dn d2;refine⟨r,i4,o,hi4,?_⟩
 have hsz:(Tryz.prog.types[32]).size=1:=by kernel_rfl
 have hby:(Tryz.prog.types[32]).bytes=24:=by kernel_rfl
 have hdpos:((dp+1:Nat):Int)>0:=by omega
 refine FC.walk (by kernel_rfl) Tryz.func62 rfl rfl ?_
 repeat'(first|exact y0|refine y1 ?_|refine y2 ?_ ?_|(refine y8 ?_ ?_<;>intro h<;>try exact y6)|(refine wC ?_;first|refine wF 18 (cm c1 ?_)|refine wF 18 (cm c2 ?_))|refine y3 ?_|refine y7 ?_ ?_|refine y4 ?_|(refine y9 ?_ ?_<;>intro h)|exact y5|fail)
 refine Ex.set 7 (.s (.row 1 2 0)) (VLe.s SLe.nilrow) rfl (Ex.upN (n':=3) (by omega) ?_)
 refine Ex.inv (σ:=Nat×Nat×List (List Nd)) (fun s=>[(7,.s (.row 1 2 s.2.2.length)),(8,nI s.1)]) (fun s=>[(0,some {cells:=[chF l,.int .i64 (s.2.1:Int)],ty:=97}),(1,iO 1 s.2.2)])
  (fun s=>∃ R,PkT l dp B s.1 s.2.1 R i3/\s.2.2++R=K) (fun s=>s.1) (m,i2,[]) rfl (fun _=>rfl) ⟨K,hB,rfl⟩ ⟨VLe.refl _,VLe.refl _,trivial⟩ ⟨rfl,trivial⟩ ?_
 rintro⟨n,j,D⟩ ⟨R,hR,hD⟩;simp only at hR hD |-
 cases hR with
 |nil=>
  rw[List.append_nil] at hD;subst hD
  cases D with
  |nil=>
   repeat'(first|exact y0|refine y1 ?_|refine y2 ?_ ?_|(refine y8 ?_ ?_<;>intro h<;>try exact y6)|(refine wC ?_;first|refine wF 18 (cm c4 ?_)|refine wF 58 (pu d1 ?_)|(refine wF 55 ?_;refine CallG.we d2 rfl ⟨VLe.refl _,VLe.s SLe.row0,trivial⟩ rfl rfl rfl ?_)|(refine wF 55 ?_;refine CallG.pz 80 (fun k=>[nS ([r1,r2].getD k [])]) 1 dn rfl rfl rfl rfl (fun _ _=>rfl) (fun kk jj zz hk hx=>bE (K:=[r1,r2]) hk hx) rfl ⟨VLe.refl _,VLe.refl _,trivial⟩ rfl rfl rfl ?_))|exact ac (by omega) (by omega)|refine y3 ?_|refine y7 ?_ ?_|refine y4 ?_|(refine y9 ?_ ?_<;>intro h)|exact y5|fail)
   all_goals first
   |exact⟨.inl rfl,_,[],VLe.refl _,EndOK.by rfl ⟨rfl,trivial⟩ rfl rfl rfl rfl⟩
   |omega
   |exact ac (by omega) (by omega)
   |exact aa (by omega) (by omega)
   |exact ac (by simp;omega) (by simp;omega)
   |exact aa (by simp;omega) (by simp;omega)
  |cons x D=>
   repeat'(first|exact y0|refine y1 ?_|refine y2 ?_ ?_|(refine y8 ?_ ?_<;>intro h<;>try exact y6)|(refine wC ?_;first|refine wF 18 (cm c4 ?_)|refine wF 58 (pu d1 ?_)|(refine wF 55 ?_;refine CallG.pz 80 (fun k=>[nS ([r1,r2].getD k [])]) 1 dn rfl rfl rfl rfl (fun _ _=>rfl) (fun kk jj zz hk hx=>bE (K:=[r1,r2]) hk hx) rfl ⟨VLe.refl _,VLe.refl _,trivial⟩ rfl rfl rfl ?_)|(refine wF 55 ?_;refine CallG.pz 78 (fun k=>[nS ((x::D).getD k [])]) 1 d2 rfl rfl rfl rfl (fun _ _=>rfl) (fun kk jj zz hk hx=>bE (K:=(x::D)) hk hx) rfl ⟨VLe.refl _,VLe.refl _,trivial⟩ rfl rfl rfl ?_))|exact ac (by omega) (by omega)|refine y3 ?_|refine y7 ?_ ?_|refine y4 ?_|(refine y9 ?_ ?_<;>intro h)|exact y5|fail)
   all_goals first
   |exact⟨.inl rfl,_,[],VLe.refl _,EndOK.by rfl ⟨rfl,trivial⟩ rfl rfl rfl rfl⟩
   |omega
   |exact ac (by omega) (by omega)
   |exact aa (by omega) (by omega)
 | @name n _ i1' j1 _ s r' R' c c2 d t=>
   have hRl:=sM t
   have hlen:D.length+n<=2:=by rw[<-hKl,<-hD] at hm2;simp at hm2;omega
   repeat'(first|exact y0|refine y1 ?_|refine y2 ?_ ?_|(refine y8 ?_ ?_<;>intro h<;>try exact y6)|(refine wC ?_;first|refine wF 18 (cm c ?_)|refine wF 19 (cm c2 ?_)|refine wF 56 (pu d ?_))|refine RegX.apr (i:=1) (g:=2) (m:=D.length) (w:=1) (cs:=D.map fun r=>nS r) (foot:=[3]) (k:=1) (add:=[nS r']) rfl rfl (by simp) rfl rfl rfl rfl rfl rfl rfl hsz (by decide) rfl ⟨Nat.le_refl _,rfl⟩ (by decide) (by simp) rfl (by rw[hby];omega) (by omega) rfl ?_|refine y3 ?_|refine y7 ?_ ?_|refine y4 ?_|(refine y9 ?_ ?_<;>intro h)|exact y5|fail)
   all_goals try first
    |exact aa (by push_cast;omega) (by push_cast;omega)
    |omega
   refine LoopR.move (n,j1,D++[r']) ⟨R',t,by simpa using hD⟩ (by simp only;omega) [0,4,5] rfl ?_ ?_ ?_
   ·repeat' (first|exact VLe.refl _|exact VLe.any _|exact True.intro|exact VLe.of_eq (congrArg nI (by push_cast;omega))|(refine VLe.of_eq (congrArg V.s (?_:S.row 4 5 _=S.row 4 5 _));simp;done)|refine⟨?_,?_⟩)
   ·refine⟨rfl,MemP.op ?_ trivial⟩
    rw[List.map_append];rfl
   ·exact (by unfold iO;generalize List.map _ _=cg;cases cg<;>rfl)
 | @data n _ k i1' j1 _ r' R' hk c c2 t=>
   have hRl:=sM t
   have hlen:D.length+n<=2:=by rw[<-hKl,<-hD] at hm2;simp at hm2;omega
   repeat'(first|exact y0|refine y1 ?_|refine y2 ?_ ?_|(refine y8 ?_ ?_<;>intro h<;>try exact y6)|(refine wC ?_;first|refine wF 18 (cm c ?_)|(refine wF 62 ?_;refine CallG.me [0] c2 rfl rfl ⟨VLe.refl _,VLe.of_eq (congrArg nI (by push_cast;omega)),trivial⟩ ⟨⟨rfl,_,rfl,rfl,fun h=>h⟩,trivial⟩ rfl rfl rfl ?_))|refine RegX.apr (i:=1) (g:=2) (m:=D.length) (w:=1) (cs:=D.map fun r=>nS r) (foot:=[3]) (k:=1) (add:=[nS r']) rfl rfl (by simp) rfl rfl rfl rfl rfl rfl rfl hsz (by decide) rfl ⟨Nat.le_refl _,rfl⟩ (by decide) (by simp) rfl (by rw[hby];omega) (by omega) rfl ?_|refine y3 ?_|refine y7 ?_ ?_|refine y4 ?_|(refine y9 ?_ ?_<;>intro h)|exact y5|fail)
   all_goals try first
    |exact aa (by push_cast;omega) (by push_cast;omega)
    |omega
   refine LoopR.move (n,j1,D++[r']) ⟨R',t,by simpa using hD⟩ (by simp only;omega) [0,4,5] rfl ?_ ?_ ?_
   ·repeat' (first|exact VLe.refl _|exact VLe.any _|exact True.intro|exact VLe.of_eq (congrArg nI (by push_cast;omega))|(refine VLe.of_eq (congrArg V.s (?_:S.row 4 5 _=S.row 4 5 _));simp;done)|refine⟨?_,?_⟩)
   ·refine⟨rfl,MemP.op ?_ trivial⟩
    rw[List.map_append];rfl
   ·exact (by unfold iO;generalize List.map _ _=cg;cases cg<;>rfl)
set_option maxRecDepth 100000
set_option maxHeartbeats 1000000
theorem AQ (l:List Int) (hl:l.length<=20000000000000) (dep:Int) (i i1 k:Nat) (hi1:i1<=l.length) (h1: ¬(k:Int)=1) (h2: ¬(k:Int)=2) (h3:(k:Int)=3-> ¬dep>0) (c1:FC Tryz.prog 18 [cP,nI (5:Nat)] 1 (chL l i) (nI k) 1 (chL l i1)):
 ∃ (r:List Nd) (i':Nat),OKr 10 r/\i'<=l.length/\FC Tryz.prog 62 [cP,nI dep] 1 (chL l i) (ae r) 1 (chL l i'):=by
 obtain⟨x,i2,hx,hi2,c2⟩:=iL l hl i1 hi1;obtain⟨r,o,d⟩:=bF x hx;refine⟨r,i2,o.le (by decide),hi2,?_⟩;by_cases hk:(k:Int)=3
 ·have hd:=h3 hk
  refine FC.walk (by kernel_rfl) Tryz.func62 rfl rfl ?_
  repeat'(first|exact y0|refine y1 ?_|refine y2 ?_ ?_|(refine y8 ?_ ?_<;>intro h<;>try(first|(first|exact absurd (by assumption) h1|exact absurd (by assumption) h2|exact absurd (by assumption) hd|exact absurd hk (by assumption))|exact y6))|(refine wC ?_;first|refine wF 18 (cm c1 ?_)|refine wF 73 (cm c2 ?_)|refine wF 58 (pu d ?_))|refine y3 ?_|refine y7 ?_ ?_|refine y4 ?_|(refine y9 ?_ ?_<;>intro h)|exact y5|fail)
  all_goals first
   |exact⟨.inl rfl,_,[],VLe.refl _,EndOK.by rfl ⟨rfl,trivial⟩ rfl rfl rfl rfl⟩
   |omega
   |exact ac (by omega) (by omega)
   |exact aa (by omega) (by omega)
 ·refine FC.walk (by kernel_rfl) Tryz.func62 rfl rfl ?_
  repeat'(first|exact y0|refine y1 ?_|refine y2 ?_ ?_|(refine y8 ?_ ?_<;>intro h<;>try(first|(first|exact absurd (by assumption) h1|exact absurd (by assumption) h2|exact absurd (by assumption) hk)|exact y6))|(refine wC ?_;first|refine wF 18 (cm c1 ?_)|refine wF 73 (cm c2 ?_)|refine wF 58 (pu d ?_))|refine y3 ?_|refine y7 ?_ ?_|refine y4 ?_|(refine y9 ?_ ?_<;>intro h)|exact y5|fail)
  all_goals first
   |exact⟨.inl rfl,_,[],VLe.refl _,EndOK.by rfl ⟨rfl,trivial⟩ rfl rfl rfl rfl⟩
   |omega
   |exact ac (by omega) (by omega)
   |exact aa (by omega) (by omega)
theorem lG (op n:Int) (s:By) (h:0<=n) (hs:s.length<=1000):∃ r,OKr 1 r/\FC Tryz.prog 103 [nI op,.s (.int .u64 n),sV s,.s (bg [])] 0 [] (ae r) 0 []:=⟨_,OKr.leaf h hs,sY op n s⟩
theorem AO (l:List Int) (hl:l.length<=20000000000000) (dep:Int) (i i1:Nat) (hi1:i1<=l.length) (c1:FC Tryz.prog 18 [cP,nI (5:Nat)] 1 (chL l i) (nI (1:Nat)) 1 (chL l i1)):
 ∃ (r:List Nd) (i':Nat),OKr 10 r/\i'<=l.length/\FC Tryz.prog 62 [cP,nI dep] 1 (chL l i) (ae r) 1 (chL l i'):=by
 obtain⟨m,i2,hm2,hi2,c2⟩:=am l hl 5 (by decide) (by decide) i1 hi1
 obtain⟨s,hs0,hs⟩:∃ s:By,s.length<=1000/\s=(if m=0 then [] else if m=1 then [120] else if m=2 then [48,70] else if m=3 then [49,50,97,98] else [0,255,34,92]):=⟨_,by (repeat' split)<;>simp,rfl⟩
 obtain⟨r,o,d⟩:=lG 2 0 s (by decide) hs0;refine⟨r,i2,o.le (by decide),hi2,?_⟩
 rcases (by omega:m=0\/m=1\/m=2\/m=3\/m=4) with rfl|rfl|rfl|rfl|rfl
 all_goals
  subst hs;refine FC.walk (by kernel_rfl) Tryz.func62 rfl rfl ?_
  repeat'(first|exact y0|refine y1 ?_|refine y2 ?_ ?_|(refine y8 ?_ ?_<;>intro h<;>try exact y6)|(refine wC ?_;first|refine wF 18 (cm c1 ?_)|refine wF 18 (cm c2 ?_)|(refine wF 103 ?_;refine CallG.we d rfl ⟨VLe.refl _,VLe.refl _,VLe.refl _,VLe.s SLe.nil,trivial⟩ rfl rfl rfl ?_))|refine y3 ?_|refine y7 ?_ ?_|refine y4 ?_|(refine y9 ?_ ?_<;>intro h)|exact y5|fail)
  all_goals first
   |exact⟨.inl rfl,_,[],VLe.refl _,EndOK.by rfl ⟨rfl,trivial⟩ rfl rfl rfl rfl⟩
   |omega
   |exact ac (by omega) (by omega)
   |exact aa (by omega) (by omega)
theorem jL (l:List Int) (hl:l.length<=20000000000000):∀ n:Nat,n<=3->BO l n (10^(n+1)):=by
 intro n hn i hi
 have hp:10<=10^(n+1):=by rw[Nat.pow_succ];have:0<10^n:=Nat.pow_pos (by decide);omega
 obtain⟨k,i1,hk,hi1,c1⟩:=am l hl 5 (by decide) (by decide) i hi;by_cases h1:k=1
 ·subst h1
  obtain⟨r,i',o,h⟩:=AO l hl n i i1 hi1 c1;exact⟨r,i',o.le hp,h⟩
 by_cases h2:k=2
 ·subst h2
  obtain⟨r,i',o,h⟩:=AR l hl n i i1 hi1 c1;exact⟨r,i',o.le hp,h⟩
 by_cases h3:k=3/\0<n
 ·obtain⟨rfl,h3⟩:=h3
  obtain⟨dp,rfl⟩:∃ dp,n=dp+1:=⟨n-1,by omega⟩
  have ih:=jL l hl dp (by omega);have hb:(10:Nat)^(dp+1)<=100000:=Nat.le_trans (Nat.pow_le_pow_right (by decide) (show dp+1<=5 by omega)) (by decide);obtain⟨r,i',o,h⟩:=AP l hl dp _ (by omega) (Nat.pow_pos (by decide)) hb ih i i1 hi1 c1;exact⟨r,i',o.le (by rw[Nat.pow_succ 10 (dp+1)];omega),h⟩
 ·obtain⟨r,i',o,h⟩:=AQ l hl n i i1 k hi1 (by omega) (by omega) (fun h=>by omega) c1
  exact⟨r,i',o.le hp,h⟩
set_option maxRecDepth 100000
set_option maxHeartbeats 1000000
def dP (l:List Int) (dep:Int) (args B:Nat):Prop:=∀ i,i<=l.length->∃ (r:List Nd) (i':Nat),OKr B r/\i'<=l.length/\FC Tryz.prog 218 [cP,nI dep,nI args] 1 (chL l i) (ae r) 1 (chL l i')
def G8 (l:List Int) (dep:Int) (args B:Nat):Prop:=∀ i,i<=l.length->∃ (r:List Nd) (i':Nat),OKr B r/\i'<=l.length/\FC Tryz.prog 221 [cP,nI dep,nI args] 1 (chL l i) (ae r) 1 (chL l i')
theorem kX (l:List Int) (hl:l.length<=20000000000000) (dep:Int) (h1: -10<=dep) (h2:dep<=10) (args B:Nat) (ha:args<=100) (hB1:1<=B) (hB2:B<=100000) (hE:0<dep->dP l (dep-1) args B):G8 l dep args (1+2*B):=by
 intro i hi;obtain⟨k,i1,hk,hi1,c1⟩:=am l hl 5 (by decide) (by decide) i hi;by_cases k1:k=1
 ·subst k1
  obtain⟨s,i2,hs,hi2,c2⟩:=jw l hl i1 hi1;obtain⟨r,o,d⟩:=aZ s (by omega);refine⟨r,i2,o.le (by omega),hi2,?_⟩;refine FC.walk (by kernel_rfl) Tryz.func221 rfl rfl ?_
  repeat'(first|exact y0|refine y1 ?_|refine y2 ?_ ?_|(refine y8 ?_ ?_<;>intro h<;>try exact y6)|(refine wC ?_;first|refine wF 18 (cm c1 ?_)|refine wF 19 (cm c2 ?_)|refine wF 56 (pu d ?_))|exact ac (by omega) (by omega)|exact aa (by omega) (by omega)|refine y3 ?_|refine y7 ?_ ?_|refine y4 ?_|(refine y9 ?_ ?_<;>intro h)|exact y5|fail)
  all_goals first
   |exact⟨.inl rfl,_,[],VLe.refl _,EndOK.by rfl ⟨rfl,trivial⟩ rfl rfl rfl rfl⟩
   |omega
   |exact ac (by omega) (by omega)
   |exact aa (by omega) (by omega)
 by_cases k2:k=2/\0<args
 ·obtain⟨rfl,hr⟩:=k2
  obtain⟨m,i2,hm2,hi2,c2⟩:=am l hl args hr (by omega) i1 hi1;obtain⟨r,o,d⟩:=lG 7 m [] (by omega) (by simp);refine⟨r,i2,o.le (by omega),hi2,?_⟩;refine FC.walk (by kernel_rfl) Tryz.func221 rfl rfl ?_
  repeat'(first|exact y0|refine y1 ?_|refine y2 ?_ ?_|(refine y8 ?_ ?_<;>intro h<;>try exact y6)|(refine wC ?_;first|refine wF 18 (cm c1 ?_)|refine wF 18 (cm c2 ?_)|(refine wF 103 ?_;refine CallG.we d rfl ⟨VLe.refl _,VLe.refl _,VLe.refl _,VLe.s SLe.nil,trivial⟩ rfl rfl rfl ?_))|exact ac (by omega) (by omega)|exact aa (by omega) (by omega)|refine y3 ?_|refine y7 ?_ ?_|refine y4 ?_|(refine y9 ?_ ?_<;>intro h)|exact y5|fail)
  all_goals first
   |exact⟨.inl rfl,_,[],VLe.refl _,EndOK.by rfl ⟨rfl,trivial⟩ rfl rfl rfl rfl⟩
   |omega
   |exact ac (by omega) (by omega)
   |exact aa (by omega) (by omega)
 by_cases k3:k=3/\0<dep
 ·obtain⟨rfl,hr⟩:=k3
  obtain⟨r1,i2,o1,hi2,c2⟩:=hE hr i1 hi1;obtain⟨r2,i3,o2,hi3,c3⟩:=hE hr i2 hi2;obtain⟨r,o,dn⟩:=au 76 [r1,r2] (B:=B) (1+2*B) (by simp[o1,o2]) (by simp;omega) (by simp) (by simp);unfold bg at dn;refine⟨r,i3,o,hi3,?_⟩;refine FC.walk (by kernel_rfl) Tryz.func221 rfl rfl ?_
  repeat'(first|exact y0|refine y1 ?_|refine y2 ?_ ?_|(refine y8 ?_ ?_<;>intro h<;>try exact y6)|(refine wC ?_;first|refine wF 18 (cm c1 ?_)|refine wF 218 (cm c2 ?_)|refine wF 218 (cm c3 ?_)|(refine wF 55 ?_;refine CallG.pz 45 (fun k=>[nS ([r1,r2].getD k [])]) 1 dn rfl rfl rfl rfl (fun _ _=>rfl) (fun kk jj zz hk hx=>bE (K:=[r1,r2]) hk hx) rfl ⟨VLe.refl _,VLe.refl _,trivial⟩ rfl rfl rfl ?_))|exact ac (by omega) (by omega)|exact aa (by omega) (by omega)|refine y3 ?_|refine y7 ?_ ?_|refine y4 ?_|(refine y9 ?_ ?_<;>intro h)|exact y5|fail)
  all_goals first
   |exact⟨.inl rfl,_,[],VLe.refl _,EndOK.by rfl ⟨rfl,trivial⟩ rfl rfl rfl rfl⟩
   |omega
   |exact ac (by omega) (by omega)
   |exact aa (by omega) (by omega)
 by_cases k4:k=4/\0<dep
 ·obtain⟨rfl,hr⟩:=k4
  obtain⟨r1,i2,o1,hi2,c2⟩:=hE hr i1 hi1;obtain⟨r,o,dn⟩:=au 84 [r1] (B:=B) (1+2*B) (by simp[o1]) (by simp;omega) (by simp) (by simp;omega);unfold bg at dn;refine⟨r,i2,o,hi2,?_⟩;refine FC.walk (by kernel_rfl) Tryz.func221 rfl rfl ?_
  repeat'(first|exact y0|refine y1 ?_|refine y2 ?_ ?_|(refine y8 ?_ ?_<;>intro h<;>try exact y6)|(refine wC ?_;first|refine wF 18 (cm c1 ?_)|refine wF 218 (cm c2 ?_)|(refine wF 55 ?_;refine CallG.pz 59 (fun k=>[nS ([r1].getD k [])]) 1 dn rfl rfl rfl rfl (fun _ _=>rfl) (fun kk jj zz hk hx=>bE (K:=[r1]) hk hx) rfl ⟨VLe.refl _,VLe.refl _,trivial⟩ rfl rfl rfl ?_))|exact ac (by omega) (by omega)|exact aa (by omega) (by omega)|refine y3 ?_|refine y7 ?_ ?_|refine y4 ?_|(refine y9 ?_ ?_<;>intro h)|exact y5|fail)
  all_goals first
   |exact⟨.inl rfl,_,[],VLe.refl _,EndOK.by rfl ⟨rfl,trivial⟩ rfl rfl rfl rfl⟩
   |omega
   |exact ac (by omega) (by omega)
   |exact aa (by omega) (by omega)
 ·obtain⟨m,i2,hm2,hi2,c2⟩:=am l hl 3 (by decide) (by decide) i1 hi1
  obtain⟨r,o,d⟩:=lG 6 m [] (by omega) (by simp);refine⟨r,i2,o.le (by omega),hi2,?_⟩;refine FC.walk (by kernel_rfl) Tryz.func221 rfl rfl ?_
  repeat'(first|exact y0|refine y1 ?_|refine y2 ?_ ?_|(refine y8 ?_ ?_<;>intro h<;>try exact y6)|(refine wC ?_;first|refine wF 18 (cm c1 ?_)|refine wF 18 (cm c2 ?_)|(refine wF 103 ?_;refine CallG.we d rfl ⟨VLe.refl _,VLe.refl _,VLe.refl _,VLe.s SLe.nil,trivial⟩ rfl rfl rfl ?_))|exact ac (by omega) (by omega)|exact aa (by omega) (by omega)|refine y3 ?_|refine y7 ?_ ?_|refine y4 ?_|(refine y9 ?_ ?_<;>intro h)|exact y5|fail)
  all_goals first
   |exact⟨.inl rfl,_,[],VLe.refl _,EndOK.by rfl ⟨rfl,trivial⟩ rfl rfl rfl rfl⟩
   |omega
   |exact ac (by omega) (by omega)
   |exact aa (by omega) (by omega)
set_option maxRecDepth 100000
set_option maxHeartbeats 1000000
inductive CaT (l:List Int) (dep:Int) (args:Nat):Nat->Nat->List (List Nd)->Nat->Prop
 |nil (i:Nat):CaT l dep args 0 i [] i
 |cons {n i i1 i':Nat} {r:List Nd} {K:List (List Nd)} (c:FC Tryz.prog 218 [cP,nI dep,nI args] 1 (chL l i) (ae r) 1 (chL l i1)) (t:CaT l dep args n i1 K i'):CaT l dep args (n+1) i (r::K) i'
theorem Bf {l:List Int} {dep:Int} {args n i i':Nat} {K:List (List Nd)} (h:CaT l dep args n i K i'):K.length=n:=by
 induction h with
 |nil i=>rfl
 |cons _ _ ih=>simp[ih]
theorem GX (l:List Int) (dep:Int) (args B:Nat) (hE:dP l dep args B):∀ (n i:Nat),i<=l.length->∃ K i',CaT l dep args n i K i'/\i'<=l.length/\∀ r∈K,OKr B r
 |0,i,hi=>⟨[],i,.nil i,hi,fun r hr=>by cases hr⟩
 |n+1,i,hi=>by
  obtain⟨r,i1,o,hi1,c⟩:=hE i hi;obtain⟨K,i',h1,h2,h4⟩:=GX l dep args B hE n i1 hi1;refine⟨r::K,i',.cons c h1,h2,fun q hq=>?_⟩
  rcases List.mem_cons.1 hq with rfl|hq
  ·exact o
  ·exact h4 q hq
theorem CD (op n:Int) (s:By) (K:List (List Nd)) {B:Nat} (C:Nat) (hn:0<=n) (hs:s.length<=1000) (hK:∀ r∈K,OKr B r) (hB:K.length*B<=1000000000000) (hk:K.length<=4096) (hC:1+K.length*B<=C):
 ∃ r,OKr C r/\FC Tryz.prog 103 [nI op,.s (.int .u64 n),sV s,.s (bg K)] 0 [] (ae r) 0 []:=⟨_,OKr.tree hK hn hs hC,sT op n s K hK hB hk⟩
def calls:List By:=[[77],[65],[92,77],[94,77]]
theorem Be (l:List Int) (hl:l.length<=20000000000000) (dep:Int) (h1: -10<=dep) (h2:dep<=10) (args B:Nat) (ha:args<=100) (hB1:1<=B) (hB2:B<=100000) (hE:dP l (dep-1) args B) (i:Nat) (hi:i<=l.length):
 ∃ (r:List Nd) (i':Nat),OKr (1+2*B) r/\i'<=l.length/\FC Tryz.prog 219 [cP,nI dep,nI args] 1 (chL l i) (ae r) 1 (chL l i'):=by
 obtain⟨m,i2,hm2,hi2,c2⟩:=am l hl 3 (by decide) (by decide) i hi;obtain⟨K,i3,hB,hi3,hK⟩:=GX l (dep-1) args B hE m i2 hi2;have hKl:=Bf hB;obtain⟨q,i4,hq,hi4,c4⟩:=am l hl 4 (by decide) (by decide) i3 hi3;have hKB:K.length*B<=2*B:=Nat.mul_le_mul_right B (by omega)
 have hsl:(calls.getD q []).length<=1000:=by
  rcases (by omega:q=0\/q=1\/q=2\/q=3) with rfl|rfl|rfl|rfl<;>decide
 obtain⟨r,o,dn⟩:=CD 5 0 (calls.getD q []) K (B:=B) (1+2*B) (by decide) hsl hK (by omega) (by omega) (by omega);unfold bg at dn;refine⟨r,i4,o,hi4,?_⟩
 have hsz:(Tryz.prog.types[32]).size=1:=by kernel_rfl
 have hby:(Tryz.prog.types[32]).bytes=24:=by kernel_rfl
 refine FC.walk (by kernel_rfl) Tryz.func219 rfl rfl ?_
 repeat'(first|exact y0|refine y1 ?_|refine y2 ?_ ?_|(refine y8 ?_ ?_<;>intro h<;>try exact y6)|(refine wC ?_;first|refine wF 18 (cm c2 ?_))|refine y3 ?_|refine y7 ?_ ?_|refine y4 ?_|(refine y9 ?_ ?_<;>intro h)|exact y5|fail)
 refine Ex.set 7 (.s (.row 1 2 0)) (VLe.s SLe.nilrow) rfl (Ex.upN (n':=3) (by omega) ?_)
 refine Ex.inv (σ:=Nat×Nat×List (List Nd)) (fun s=>[(7,.s (.row 1 2 s.2.2.length)),(8,nI s.1)]) (fun s=>[(0,some {cells:=[chF l,.int .i64 (s.2.1:Int)],ty:=97}),(1,iO 1 s.2.2)])
  (fun s=>∃ R,CaT l (dep-1) args s.1 s.2.1 R i3/\s.2.2++R=K) (fun s=>s.1) (m,i2,[]) rfl (fun _=>rfl) ⟨K,hB,rfl⟩ ⟨VLe.refl _,VLe.refl _,trivial⟩ ⟨rfl,trivial⟩ ?_
 rintro⟨n,j,D⟩ ⟨R,hR,hD⟩;simp only at hR hD |-
 cases hR with
 |nil=>
  rw[List.append_nil] at hD;subst hD
  rcases (by omega:q=0\/q=1\/q=2\/q=3) with rfl|rfl|rfl|rfl
  all_goals
   cases D with
   |nil=>
    repeat'(first|exact y0|refine y1 ?_|refine y2 ?_ ?_|(refine y8 ?_ ?_<;>intro h<;>try exact y6)|(refine wC ?_;first|refine wF 18 (cm c4 ?_)|(refine wF 103 ?_;refine CallG.we dn rfl ⟨VLe.refl _,VLe.refl _,VLe.refl _,VLe.s SLe.row0,trivial⟩ rfl rfl rfl ?_))|exact ac (by omega) (by omega)|exact aa (by omega) (by omega)|refine y3 ?_|refine y7 ?_ ?_|refine y4 ?_|(refine y9 ?_ ?_<;>intro h)|exact y5|fail)
    all_goals first
    |exact⟨.inl rfl,_,[],VLe.refl _,EndOK.by rfl ⟨rfl,trivial⟩ rfl rfl rfl rfl⟩
    |omega
    |exact ac (by omega) (by omega)
    |exact aa (by omega) (by omega)
   |cons x D=>
    repeat'(first|exact y0|refine y1 ?_|refine y2 ?_ ?_|(refine y8 ?_ ?_<;>intro h<;>try exact y6)|(refine wC ?_;first|refine wF 18 (cm c4 ?_)|(refine wF 103 ?_;refine CallG.pz 28 (fun k=>[nS ((x::D).getD k [])]) 1 dn rfl rfl rfl rfl (fun _ _=>rfl) (fun kk jj zz hk hx=>bE (K:=(x::D)) hk hx) rfl ⟨VLe.refl _,VLe.refl _,VLe.refl _,VLe.refl _,trivial⟩ rfl rfl rfl ?_))|exact ac (by omega) (by omega)|exact aa (by omega) (by omega)|refine y3 ?_|refine y7 ?_ ?_|refine y4 ?_|(refine y9 ?_ ?_<;>intro h)|exact y5|fail)
    all_goals first
    |exact⟨.inl rfl,_,[],VLe.refl _,EndOK.by rfl ⟨rfl,trivial⟩ rfl rfl rfl rfl⟩
    |omega
    |exact ac (by omega) (by omega)
    |exact aa (by omega) (by omega)
 | @cons n _ j1 _ r' R' c t=>
   have hRl:=Bf t
   have hlen:D.length+n<=2:=by rw[<-hKl,<-hD] at hm2;simp at hm2;omega
   repeat'(first|exact y0|refine y1 ?_|refine y2 ?_ ?_|(refine y8 ?_ ?_<;>intro h<;>try exact y6)|(refine wC ?_;first|refine wF 218 (cm c ?_))|exact ac (by omega) (by omega)|exact aa (by omega) (by omega)|refine RegX.apr (i:=1) (g:=2) (m:=D.length) (w:=1) (cs:=D.map fun r=>nS r) (foot:=[3]) (k:=1) (add:=[nS r']) rfl rfl (by simp) rfl rfl rfl rfl rfl rfl rfl hsz (by decide) rfl ⟨Nat.le_refl _,rfl⟩ (by decide) (by simp) rfl (by rw[hby];omega) (by omega) rfl ?_|refine y3 ?_|refine y7 ?_ ?_|refine y4 ?_|(refine y9 ?_ ?_<;>intro h)|exact y5|fail)
   all_goals try first
    |exact aa (by push_cast;omega) (by push_cast;omega)
    |omega
   refine LoopR.move (n,j1,D++[r']) ⟨R',t,by simpa using hD⟩ (by simp only;omega) [0,4,5] rfl ?_ ?_ ?_
   ·repeat' (first|exact VLe.refl _|exact VLe.any _|exact True.intro|exact VLe.of_eq (congrArg nI (by push_cast;omega))|(refine VLe.of_eq (congrArg V.s (?_:S.row 4 5 _=S.row 4 5 _));simp;done)|refine⟨?_,?_⟩)
   ·refine⟨rfl,MemP.op ?_ trivial⟩
    rw[List.map_append];rfl
   ·exact (by unfold iO;generalize List.map _ _=cg;cases cg<;>rfl)
set_option maxRecDepth 100000
set_option maxHeartbeats 1000000
theorem xL (l:List Int) (hl:l.length<=20000000000000) (dep:Int) (h1: -10<=dep) (h2:dep<=10) (args B:Nat) (ha:args<=100) (hB1:1<=B) (hB2:B<=100000) (hE:dP l (dep-1) args B) (i:Nat) (hi:i<=l.length):
 ∃ (r:List Nd) (i':Nat),OKr (1+2*B) r/\i'<=l.length/\FC Tryz.prog 220 [cP,nI dep,nI args] 1 (chL l i) (ae r) 1 (chL l i'):=by
 obtain⟨k,i1,hk,hi1,c1⟩:=am l hl 2 (by decide) (by decide) i hi;by_cases k1:k=0
 ·subst k1
  obtain⟨m,i2,hm2,hi2,c2⟩:=am l hl 3 (by decide) (by decide) i1 hi1;obtain⟨q,i3,hq,hi3,c3⟩:=am l hl 40000 (by decide) (by decide) i2 hi2
  have hP:(m:Int)*(q:Int)<=120000:=by
   have:=Nat.mul_le_mul (Nat.le_of_lt hm2) (Nat.le_of_lt hq);have h:((m*q:Nat):Int)<=((3*40000:Nat):Int):=Int.ofNat_le.2 this;rw[Int.natCast_mul] at h;omega
  have hP0:0<=(m:Int)*(q:Int):=Int.mul_nonneg (by omega) (by omega);obtain⟨r1,o1,d1⟩:=aZ [77,84,88] (by decide);obtain⟨r2,o2,d2⟩:=bF (if (65535:Int)<(m:Int)*(q:Int) then 65535 else (m:Int)*(q:Int)) (by split<;>omega);obtain⟨r,o,dn⟩:=au 41 [r1,r2] (B:=1) 3 (by simp[o1,o2]) (by simp) (by simp) (by simp);unfold bg at dn;refine⟨r,i3,o.le (by omega),hi3,?_⟩;refine FC.walk (by kernel_rfl) Tryz.func220 rfl rfl ?_
  repeat'(first|exact y0|refine y1 ?_|refine y2 ?_ ?_|(refine y8 ?_ ?_<;>intro h<;>try exact y6)|(refine wC ?_;first|refine wF 18 (cm c1 ?_)|refine wF 18 (cm c2 ?_)|refine wF 18 (cm c3 ?_)|refine wF 56 (pu d1 ?_))|exact ac (by omega) (by omega)|exact aa (by omega) (by omega)|exact ac (by split<;>omega) (by split<;>omega)|exact aa (by split<;>omega) (by split<;>omega)|refine y3 ?_|refine y7 ?_ ?_|refine y4 ?_|(refine y9 ?_ ?_<;>intro h)|exact y5|fail)
  refine RegX.opA [.num (if (65535:Int)<(m:Int)*(q:Int) then 65535 else (m:Int)*(q:Int))] rfl rfl ⟨trivial,rfl⟩ ?_;generalize hz:(if (65535:Int)<(m:Int)*(q:Int) then 65535 else (m:Int)*(q:Int))=z at*
  have hz0:0<=z:=by rw[<-hz];split<;>omega
  have hz1:z<=65535:=by rw[<-hz];split<;>omega
  repeat'(first|exact y0|refine y1 ?_|refine y2 ?_ ?_|(refine y8 ?_ ?_<;>intro h<;>try exact y6)|(refine wC ?_;first|refine wF 58 (pu d2 ?_)|(refine wF 55 ?_;refine CallG.pz 19 (fun k=>[nS ([r1,r2].getD k [])]) 1 dn rfl rfl rfl rfl (fun _ _=>rfl) (fun kk jj zz hk hx=>bE (K:=[r1,r2]) hk hx) rfl ⟨VLe.refl _,VLe.refl _,trivial⟩ rfl rfl rfl ?_))|exact ac (by omega) (by omega)|exact aa (by omega) (by omega)|exact ac (by split<;>omega) (by split<;>omega)|exact aa (by split<;>omega) (by split<;>omega)|refine y3 ?_|refine y7 ?_ ?_|refine y4 ?_|(refine y9 ?_ ?_<;>intro h)|exact y5|fail)
  all_goals first
   |exact⟨.inl rfl,_,[],VLe.refl _,EndOK.by rfl ⟨rfl,trivial⟩ rfl rfl rfl rfl⟩
   |omega
   |exact ac (by omega) (by omega)
   |exact aa (by omega) (by omega)
 ·obtain⟨r2,i2,o2,hi2,c2⟩:=hE i1 hi1
  obtain⟨r1,o1,d1⟩:=aZ [69,86,84] (by decide);obtain⟨r,o,dn⟩:=au 42 [r1,r2] (B:=B) (1+2*B) (by simp[o1.le hB1,o2]) (by simp;omega) (by simp) (by simp);unfold bg at dn;refine⟨r,i2,o,hi2,?_⟩;refine FC.walk (by kernel_rfl) Tryz.func220 rfl rfl ?_
  repeat'(first|exact y0|refine y1 ?_|refine y2 ?_ ?_|(refine y8 ?_ ?_<;>intro h<;>try exact y6)|(refine wC ?_;first|refine wF 18 (cm c1 ?_)|refine wF 218 (cm c2 ?_)|refine wF 56 (pu d1 ?_)|(refine wF 55 ?_;refine CallG.pz 27 (fun k=>[nS ([r1,r2].getD k [])]) 1 dn rfl rfl rfl rfl (fun _ _=>rfl) (fun kk jj zz hk hx=>bE (K:=[r1,r2]) hk hx) rfl ⟨VLe.refl _,VLe.refl _,trivial⟩ rfl rfl rfl ?_))|exact ac (by omega) (by omega)|exact aa (by omega) (by omega)|exact ac (by split<;>omega) (by split<;>omega)|exact aa (by split<;>omega) (by split<;>omega)|refine y3 ?_|refine y7 ?_ ?_|refine y4 ?_|(refine y9 ?_ ?_<;>intro h)|exact y5|fail)
  all_goals first
   |exact⟨.inl rfl,_,[],VLe.refl _,EndOK.by rfl ⟨rfl,trivial⟩ rfl rfl rfl rfl⟩
   |omega
   |exact ac (by omega) (by omega)
   |exact aa (by omega) (by omega)
   |exact ac (by split<;>omega) (by split<;>omega)
   |exact aa (by split<;>omega) (by split<;>omega)
set_option maxRecDepth 100000
set_option maxHeartbeats 1000000
theorem FG (l:List Int) (hl:l.length<=20000000000000) (dep:Int) (h1: -10<=dep) (h2:dep<=0) (args:Nat) (ha:args<=100):dP l dep args 100:=by
 intro i hi;obtain⟨k,i1,hk,hi1,c1⟩:=am l hl 16 (by decide) (by decide) i hi;by_cases k1:k=1\/k=6\/k=11
 ·obtain⟨r,i2,o,hi2,c2⟩:=kX l hl 0 (by decide) (by decide) args 1 ha (by decide) (by decide) (fun h=>absurd h (by decide)) i1 hi1
  refine⟨r,i2,o.le (by decide),hi2,?_⟩
  rcases k1 with rfl|rfl|rfl
  all_goals
   refine FC.walk (by kernel_rfl) Tryz.func218 rfl rfl ?_
   repeat'(first|exact y0|refine y1 ?_|refine y2 ?_ ?_|(refine y8 ?_ ?_<;>intro h<;>try exact y6)|(refine wC ?_;first|refine wF 18 (cm c1 ?_)|refine wF 221 (cm c2 ?_))|exact ac (by omega) (by omega)|exact aa (by omega) (by omega)|refine y3 ?_|refine y7 ?_ ?_|refine y4 ?_|(refine y9 ?_ ?_<;>intro h)|exact y5|fail)
   all_goals first
    |exact⟨.inl rfl,_,[],VLe.refl _,EndOK.by rfl ⟨rfl,trivial⟩ rfl rfl rfl rfl⟩
    |omega
    |exact ac (by omega) (by omega)
    |exact aa (by omega) (by omega)
 by_cases k2:k=2\/k=7\/k=12
 ·obtain⟨r,i2,o,hi2,c2⟩:=jL l hl 1 (by decide) i1 hi1
  refine⟨r,i2,o,hi2,?_⟩
  rcases k2 with rfl|rfl|rfl
  all_goals
   refine FC.walk (by kernel_rfl) Tryz.func218 rfl rfl ?_
   repeat'(first|exact y0|refine y1 ?_|refine y2 ?_ ?_|(refine y8 ?_ ?_<;>intro h<;>try exact y6)|(refine wC ?_;first|refine wF 18 (cm c1 ?_)|refine wF 62 (cm c2 ?_))|exact ac (by omega) (by omega)|exact aa (by omega) (by omega)|refine y3 ?_|refine y7 ?_ ?_|refine y4 ?_|(refine y9 ?_ ?_<;>intro h)|exact y5|fail)
   all_goals first
    |exact⟨.inl rfl,_,[],VLe.refl _,EndOK.by rfl ⟨rfl,trivial⟩ rfl rfl rfl rfl⟩
    |omega
    |exact ac (by omega) (by omega)
    |exact aa (by omega) (by omega)
 by_cases k3:k=3\/k=8\/k=13
 ·obtain⟨m,i2,hm2,hi2,c2⟩:=am l hl 3 (by decide) (by decide) i1 hi1
  obtain⟨r,o,d⟩:=lG 6 m [] (by omega) (by simp);refine⟨r,i2,o.le (by decide),hi2,?_⟩
  rcases k3 with rfl|rfl|rfl
  all_goals
   refine FC.walk (by kernel_rfl) Tryz.func218 rfl rfl ?_
   repeat'(first|exact y0|refine y1 ?_|refine y2 ?_ ?_|(refine y8 ?_ ?_<;>intro h<;>try exact y6)|(refine wC ?_;first|refine wF 18 (cm c1 ?_)|refine wF 18 (cm c2 ?_)|(refine wF 103 ?_;refine CallG.we d rfl ⟨VLe.refl _,VLe.refl _,VLe.refl _,VLe.s SLe.nil,trivial⟩ rfl rfl rfl ?_))|exact ac (by omega) (by omega)|exact aa (by omega) (by omega)|refine y3 ?_|refine y7 ?_ ?_|refine y4 ?_|(refine y9 ?_ ?_<;>intro h)|exact y5|fail)
   all_goals first
    |exact⟨.inl rfl,_,[],VLe.refl _,EndOK.by rfl ⟨rfl,trivial⟩ rfl rfl rfl rfl⟩
    |omega
    |exact ac (by omega) (by omega)
    |exact aa (by omega) (by omega)
 by_cases k4:k=4\/k=9\/k=14
 ·obtain⟨s,i2,hs,hi2,c2⟩:=jw l hl i1 hi1
  obtain⟨r,o,d⟩:=aZ s (by omega);refine⟨r,i2,o.le (by decide),hi2,?_⟩
  rcases k4 with rfl|rfl|rfl
  all_goals
   refine FC.walk (by kernel_rfl) Tryz.func218 rfl rfl ?_
   repeat'(first|exact y0|refine y1 ?_|refine y2 ?_ ?_|(refine y8 ?_ ?_<;>intro h<;>try exact y6)|(refine wC ?_;first|refine wF 18 (cm c1 ?_)|refine wF 19 (cm c2 ?_)|refine wF 56 (pu d ?_))|exact ac (by omega) (by omega)|exact aa (by omega) (by omega)|refine y3 ?_|refine y7 ?_ ?_|refine y4 ?_|(refine y9 ?_ ?_<;>intro h)|exact y5|fail)
   all_goals first
    |exact⟨.inl rfl,_,[],VLe.refl _,EndOK.by rfl ⟨rfl,trivial⟩ rfl rfl rfl rfl⟩
    |omega
    |exact ac (by omega) (by omega)
    |exact aa (by omega) (by omega)
 by_cases k0:k=0\/k=5\/k=10\/k=15
 ·obtain⟨x,i2,hx,hi2,c2⟩:=iL l hl i1 hi1
  obtain⟨r,o,d⟩:=bF x hx;refine⟨r,i2,o.le (by decide),hi2,?_⟩
  rcases k0 with rfl|rfl|rfl|rfl
  all_goals
   refine FC.walk (by kernel_rfl) Tryz.func218 rfl rfl ?_
   repeat'(first|exact y0|refine y1 ?_|refine y2 ?_ ?_|(refine y8 ?_ ?_<;>intro h<;>try exact y6)|(refine wC ?_;first|refine wF 18 (cm c1 ?_)|refine wF 73 (cm c2 ?_)|refine wF 58 (pu d ?_))|exact ac (by omega) (by omega)|exact aa (by omega) (by omega)|refine y3 ?_|refine y7 ?_ ?_|refine y4 ?_|(refine y9 ?_ ?_<;>intro h)|exact y5|fail)
   all_goals first
    |exact⟨.inl rfl,_,[],VLe.refl _,EndOK.by rfl ⟨rfl,trivial⟩ rfl rfl rfl rfl⟩
    |omega
    |exact ac (by omega) (by omega)
    |exact aa (by omega) (by omega)
 omega
end Go.Proofs.YtegjgpldfgjoiaaGreatDoor
