import Derived.Test.YtbokilgdefkmiaaGreatDoorCzB15
set_option linter.unusedSimpArgs false
set_option linter.unusedVariables false
namespace Go.Proofs.YtbokilgdefkmiaaGreatDoor
open Go Ab
set_option maxRecDepth 100000
set_option maxHeartbeats 1000000
inductive CaT (l:List Int) (dep:Int) (args:Nat):Nat→Nat→List (List Nd)→Nat→Prop
 |nil (i:Nat):CaT l dep args 0 i [] i
 |cons {n i i1 i':Nat} {r:List Nd} {K:List (List Nd)} (c:FC Tryz.prog 130 [cP,nI dep,nI args] 1 (chL l i) (nodes r) 1 (chL l i1)) (t:CaT l dep args n i1 K i'):CaT l dep args (n+1) i (r::K) i'
theorem ca_len {l:List Int} {dep:Int} {args n i i':Nat} {K:List (List Nd)} (h:CaT l dep args n i K i'):K.length=n:=by
 induction h with
 |nil i=>rfl
 |cons _ _ ih=>simp[ih]
theorem ca_t (l:List Int) (dep:Int) (args B:Nat) (hE:ExprE l dep args B):∀ (n i:Nat),i≤l.length→∃ K i',CaT l dep args n i K i'∧i'≤l.length∧∀ r∈K,OKr B r
 |0,i,hi=>⟨[],i,.nil i,hi,fun r hr=>by cases hr⟩
 |n+1,i,hi=>by
  obtain⟨r,i1,o,hi1,c⟩:=hE i hi;obtain⟨K,i',h1,h2,h4⟩:=ca_t l dep args B hE n i1 hi1;refine⟨r::K,i',.cons c h1,h2,fun q hq=>?_⟩
  rcases List.mem_cons.1 hq with rfl|hq
  ·exact o
  ·exact h4 q hq
theorem nodeK_e (op n:Int) (s:By) (K:List (List Nd)) {B:Nat} (C:Nat) (hn:0≤n) (hs:s.length≤1000) (hK:∀ r∈K,OKr B r) (hB:K.length*B≤1000000000000) (hk:K.length≤4096) (hC:1+K.length*B≤C):
 ∃ r,OKr C r∧FC Tryz.prog 48 [nI op,.s (.int .u64 n),sV s,.s (kidF K)] 0 [] (nodes r) 0 []:=⟨_,OKr.tree hK hn hs hC,node_t op n s K hK hB hk⟩
def calls:List By:=[[77],[65],[92,77],[94,77]]
theorem call_e (l:List Int) (hl:l.length≤20000000000000) (dep:Int) (h1: -10≤dep) (h2:dep≤10) (args B:Nat) (ha:args≤100) (hB1:1≤B) (hB2:B≤100000) (hE:ExprE l (dep-1) args B) (i:Nat) (hi:i≤l.length):
 ∃ (r:List Nd) (i':Nat),OKr (1+2*B) r∧i'≤l.length∧FC Tryz.prog 131 [cP,nI dep,nI args] 1 (chL l i) (nodes r) 1 (chL l i'):=by
 obtain⟨m,i2,hm2,hi2,c2⟩:=next_c l hl 3 (by decide) (by decide) i hi;obtain⟨K,i3,hB,hi3,hK⟩:=ca_t l (dep-1) args B hE m i2 hi2;have hKl:=ca_len hB;obtain⟨q,i4,hq,hi4,c4⟩:=next_c l hl 4 (by decide) (by decide) i3 hi3;have hKB:K.length*B≤2*B:=Nat.mul_le_mul_right B (by omega)
 have hsl:(calls.getD q []).length≤1000:=by
  rcases (by omega:q=0∨q=1∨q=2∨q=3) with rfl|rfl|rfl|rfl<;>decide
 obtain⟨r,o,dn⟩:=nodeK_e 5 0 (calls.getD q []) K (B:=B) (1+2*B) (by decide) hsl hK (by omega) (by omega) (by omega);unfold kidF at dn;refine⟨r,i4,o,hi4,?_⟩
 have hsz:(Tryz.prog.types[23]).size=1:=by kernel_rfl
 have hby:(Tryz.prog.types[23]).bytes=24:=by kernel_rfl
 refine FC.walk (by kernel_rfl) Tryz.func131 rfl rfl ?_
 repeat'(first|exact y0|refine y1 ?_|refine y2 ?_ ?_|(refine y8 ?_ ?_<;>intro h<;>try exact y6)|(refine wC ?_;first|refine wF 28 (cm c2 ?_))|refine y3 ?_|refine y7 ?_ ?_|refine y4 ?_|(refine y9 ?_ ?_<;>intro h)|exact y5|fail)
 refine Ex.set 7 (.s (.row 1 2 0)) (VLe.s SLe.nilrow) rfl (Ex.upN (n':=3) (by omega) ?_)
 refine Ex.inv (σ:=Nat×Nat×List (List Nd)) (fun s=>[(7,.s (.row 1 2 s.2.2.length)),(8,nI s.1)]) (fun s=>[(0,some {cells:=[chF l,.int .i64 (s.2.1:Int)],ty:=93}),(1,kidB 1 s.2.2)])
  (fun s=>∃ R,CaT l (dep-1) args s.1 s.2.1 R i3∧s.2.2++R=K) (fun s=>s.1) (m,i2,[]) rfl (fun _=>rfl) ⟨K,hB,rfl⟩ ⟨VLe.refl _,VLe.refl _,trivial⟩ ⟨rfl,trivial⟩ ?_
 rintro⟨n,j,D⟩ ⟨R,hR,hD⟩;simp only at hR hD ⊢
 cases hR with
 |nil=>
  rw[List.append_nil] at hD;subst hD
  rcases (by omega:q=0∨q=1∨q=2∨q=3) with rfl|rfl|rfl|rfl
  all_goals
   cases D with
   |nil=>
    repeat'(first|exact y0|refine y1 ?_|refine y2 ?_ ?_|(refine y8 ?_ ?_<;>intro h<;>try exact y6)|(refine wC ?_;first|refine wF 28 (cm c4 ?_)|(refine wF 48 ?_;refine CallG.we dn rfl ⟨VLe.refl _,VLe.refl _,VLe.refl _,VLe.s SLe.row0,trivial⟩ rfl rfl rfl ?_))|exact u64_in (by omega) (by omega)|exact i64_in (by omega) (by omega)|refine y3 ?_|refine y7 ?_ ?_|refine y4 ?_|(refine y9 ?_ ?_<;>intro h)|exact y5|fail)
    all_goals first
    |exact⟨.inl rfl,_,[],VLe.refl _,EndOK.by rfl ⟨rfl,trivial⟩ rfl rfl rfl rfl⟩
    |omega
    |exact u64_in (by omega) (by omega)
    |exact i64_in (by omega) (by omega)
   |cons x D=>
    repeat'(first|exact y0|refine y1 ?_|refine y2 ?_ ?_|(refine y8 ?_ ?_<;>intro h<;>try exact y6)|(refine wC ?_;first|refine wF 28 (cm c4 ?_)|(refine wF 48 ?_;refine CallG.pz 28 (fun k=>[nS ((x::D).getD k [])]) 1 dn rfl rfl rfl rfl (fun _ _=>rfl) (fun kk jj zz hk hx=>kid_cell (K:=(x::D)) hk hx) rfl ⟨VLe.refl _,VLe.refl _,VLe.refl _,VLe.refl _,trivial⟩ rfl rfl rfl ?_))|exact u64_in (by omega) (by omega)|exact i64_in (by omega) (by omega)|refine y3 ?_|refine y7 ?_ ?_|refine y4 ?_|(refine y9 ?_ ?_<;>intro h)|exact y5|fail)
    all_goals first
    |exact⟨.inl rfl,_,[],VLe.refl _,EndOK.by rfl ⟨rfl,trivial⟩ rfl rfl rfl rfl⟩
    |omega
    |exact u64_in (by omega) (by omega)
    |exact i64_in (by omega) (by omega)
 | @cons n _ j1 _ r' R' c t=>
   have hRl:=ca_len t
   have hlen:D.length+n≤2:=by rw[←hKl,←hD] at hm2;simp at hm2;omega
   repeat'(first|exact y0|refine y1 ?_|refine y2 ?_ ?_|(refine y8 ?_ ?_<;>intro h<;>try exact y6)|(refine wC ?_;first|refine wF 130 (cm c ?_))|exact u64_in (by omega) (by omega)|exact i64_in (by omega) (by omega)|refine RegX.apr (i:=1) (g:=2) (m:=D.length) (w:=1) (cs:=D.map fun r=>nS r) (foot:=[3]) (k:=1) (add:=[nS r']) rfl rfl (by simp) rfl rfl rfl rfl rfl rfl rfl hsz (by decide) rfl ⟨Nat.le_refl _,rfl⟩ (by decide) (by simp) rfl (by rw[hby];omega) (by omega) rfl ?_|refine y3 ?_|refine y7 ?_ ?_|refine y4 ?_|(refine y9 ?_ ?_<;>intro h)|exact y5|fail)
   all_goals try first
    |exact i64_in (by push_cast;omega) (by push_cast;omega)
    |omega
   refine LoopR.move (n,j1,D++[r']) ⟨R',t,by simpa using hD⟩ (by simp only;omega) [0,4,5] rfl ?_ ?_ ?_
   ·repeat' (first|exact VLe.refl _|exact VLe.any _|exact True.intro|exact VLe.of_eq (congrArg nI (by push_cast;omega))|(refine VLe.of_eq (congrArg V.s (?_:S.row 4 5 _=S.row 4 5 _));simp;done)|refine⟨?_,?_⟩)
   ·refine⟨rfl,MemP.op ?_ trivial⟩
    rw[List.map_append];rfl
   ·exact (by unfold kidB;generalize List.map _ _=cg;cases cg<;>rfl)
set_option maxRecDepth 100000
set_option maxHeartbeats 1000000
theorem sync_e (l:List Int) (hl:l.length≤20000000000000) (dep:Int) (h1: -10≤dep) (h2:dep≤10) (args B:Nat) (ha:args≤100) (hB1:1≤B) (hB2:B≤100000) (hE:ExprE l (dep-1) args B) (i:Nat) (hi:i≤l.length):
 ∃ (r:List Nd) (i':Nat),OKr (1+2*B) r∧i'≤l.length∧FC Tryz.prog 132 [cP,nI dep,nI args] 1 (chL l i) (nodes r) 1 (chL l i'):=by
 obtain⟨k,i1,hk,hi1,c1⟩:=next_c l hl 2 (by decide) (by decide) i hi;by_cases k1:k=0
 ·subst k1
  obtain⟨m,i2,hm2,hi2,c2⟩:=next_c l hl 3 (by decide) (by decide) i1 hi1;obtain⟨q,i3,hq,hi3,c3⟩:=next_c l hl 40000 (by decide) (by decide) i2 hi2
  have hP:(m:Int)*(q:Int)≤120000:=by
   have:=Nat.mul_le_mul (Nat.le_of_lt hm2) (Nat.le_of_lt hq);have h:((m*q:Nat):Int)≤((3*40000:Nat):Int):=Int.ofNat_le.2 this;rw[Int.natCast_mul] at h;omega
  have hP0:0≤(m:Int)*(q:Int):=Int.mul_nonneg (by omega) (by omega);obtain⟨r1,o1,d1⟩:=name_e [77,84,88] (by decide);obtain⟨r2,o2,d2⟩:=int_e (if (65535:Int)<(m:Int)*(q:Int) then 65535 else (m:Int)*(q:Int)) (by split<;>omega);obtain⟨r,o,dn⟩:=node_e 41 [r1,r2] (B:=1) 3 (by simp[o1,o2]) (by simp) (by simp) (by simp);unfold kidF at dn;refine⟨r,i3,o.le (by omega),hi3,?_⟩;refine FC.walk (by kernel_rfl) Tryz.func132 rfl rfl ?_
  repeat'(first|exact y0|refine y1 ?_|refine y2 ?_ ?_|(refine y8 ?_ ?_<;>intro h<;>try exact y6)|(refine wC ?_;first|refine wF 28 (cm c1 ?_)|refine wF 28 (cm c2 ?_)|refine wF 28 (cm c3 ?_)|refine wF 26 (pu d1 ?_))|exact u64_in (by omega) (by omega)|exact i64_in (by omega) (by omega)|exact u64_in (by split<;>omega) (by split<;>omega)|exact i64_in (by split<;>omega) (by split<;>omega)|refine y3 ?_|refine y7 ?_ ?_|refine y4 ?_|(refine y9 ?_ ?_<;>intro h)|exact y5|fail)
  refine RegX.opA [.num (if (65535:Int)<(m:Int)*(q:Int) then 65535 else (m:Int)*(q:Int))] rfl rfl ⟨trivial,rfl⟩ ?_;generalize hz:(if (65535:Int)<(m:Int)*(q:Int) then 65535 else (m:Int)*(q:Int))=z at*
  have hz0:0≤z:=by rw[←hz];split<;>omega
  have hz1:z≤65535:=by rw[←hz];split<;>omega
  repeat'(first|exact y0|refine y1 ?_|refine y2 ?_ ?_|(refine y8 ?_ ?_<;>intro h<;>try exact y6)|(refine wC ?_;first|refine wF 27 (pu d2 ?_)|(refine wF 25 ?_;refine CallG.pz 19 (fun k=>[nS ([r1,r2].getD k [])]) 1 dn rfl rfl rfl rfl (fun _ _=>rfl) (fun kk jj zz hk hx=>kid_cell (K:=[r1,r2]) hk hx) rfl ⟨VLe.refl _,VLe.refl _,trivial⟩ rfl rfl rfl ?_))|exact u64_in (by omega) (by omega)|exact i64_in (by omega) (by omega)|exact u64_in (by split<;>omega) (by split<;>omega)|exact i64_in (by split<;>omega) (by split<;>omega)|refine y3 ?_|refine y7 ?_ ?_|refine y4 ?_|(refine y9 ?_ ?_<;>intro h)|exact y5|fail)
  all_goals first
   |exact⟨.inl rfl,_,[],VLe.refl _,EndOK.by rfl ⟨rfl,trivial⟩ rfl rfl rfl rfl⟩
   |omega
   |exact u64_in (by omega) (by omega)
   |exact i64_in (by omega) (by omega)
 ·obtain⟨r2,i2,o2,hi2,c2⟩:=hE i1 hi1
  obtain⟨r1,o1,d1⟩:=name_e [69,86,84] (by decide);obtain⟨r,o,dn⟩:=node_e 42 [r1,r2] (B:=B) (1+2*B) (by simp[o1.le hB1,o2]) (by simp;omega) (by simp) (by simp);unfold kidF at dn;refine⟨r,i2,o,hi2,?_⟩;refine FC.walk (by kernel_rfl) Tryz.func132 rfl rfl ?_
  repeat'(first|exact y0|refine y1 ?_|refine y2 ?_ ?_|(refine y8 ?_ ?_<;>intro h<;>try exact y6)|(refine wC ?_;first|refine wF 28 (cm c1 ?_)|refine wF 130 (cm c2 ?_)|refine wF 26 (pu d1 ?_)|(refine wF 25 ?_;refine CallG.pz 27 (fun k=>[nS ([r1,r2].getD k [])]) 1 dn rfl rfl rfl rfl (fun _ _=>rfl) (fun kk jj zz hk hx=>kid_cell (K:=[r1,r2]) hk hx) rfl ⟨VLe.refl _,VLe.refl _,trivial⟩ rfl rfl rfl ?_))|exact u64_in (by omega) (by omega)|exact i64_in (by omega) (by omega)|exact u64_in (by split<;>omega) (by split<;>omega)|exact i64_in (by split<;>omega) (by split<;>omega)|refine y3 ?_|refine y7 ?_ ?_|refine y4 ?_|(refine y9 ?_ ?_<;>intro h)|exact y5|fail)
  all_goals first
   |exact⟨.inl rfl,_,[],VLe.refl _,EndOK.by rfl ⟨rfl,trivial⟩ rfl rfl rfl rfl⟩
   |omega
   |exact u64_in (by omega) (by omega)
   |exact i64_in (by omega) (by omega)
   |exact u64_in (by split<;>omega) (by split<;>omega)
   |exact i64_in (by split<;>omega) (by split<;>omega)
set_option maxRecDepth 100000
set_option maxHeartbeats 1000000
theorem expr_0 (l:List Int) (hl:l.length≤20000000000000) (dep:Int) (h1: -10≤dep) (h2:dep≤0) (args:Nat) (ha:args≤100):ExprE l dep args 100:=by
 intro i hi;obtain⟨k,i1,hk,hi1,c1⟩:=next_c l hl 16 (by decide) (by decide) i hi;by_cases k1:k=1∨k=6∨k=11
 ·obtain⟨r,i2,o,hi2,c2⟩:=targ_e l hl 0 (by decide) (by decide) args 1 ha (by decide) (by decide) (fun h=>absurd h (by decide)) i1 hi1
  refine⟨r,i2,o.le (by decide),hi2,?_⟩
  rcases k1 with rfl|rfl|rfl
  all_goals
   refine FC.walk (by kernel_rfl) Tryz.func130 rfl rfl ?_
   repeat'(first|exact y0|refine y1 ?_|refine y2 ?_ ?_|(refine y8 ?_ ?_<;>intro h<;>try exact y6)|(refine wC ?_;first|refine wF 28 (cm c1 ?_)|refine wF 133 (cm c2 ?_))|exact u64_in (by omega) (by omega)|exact i64_in (by omega) (by omega)|refine y3 ?_|refine y7 ?_ ?_|refine y4 ?_|(refine y9 ?_ ?_<;>intro h)|exact y5|fail)
   all_goals first
    |exact⟨.inl rfl,_,[],VLe.refl _,EndOK.by rfl ⟨rfl,trivial⟩ rfl rfl rfl rfl⟩
    |omega
    |exact u64_in (by omega) (by omega)
    |exact i64_in (by omega) (by omega)
 by_cases k2:k=2∨k=7∨k=12
 ·obtain⟨r,i2,o,hi2,c2⟩:=data_e l hl 1 (by decide) i1 hi1
  refine⟨r,i2,o,hi2,?_⟩
  rcases k2 with rfl|rfl|rfl
  all_goals
   refine FC.walk (by kernel_rfl) Tryz.func130 rfl rfl ?_
   repeat'(first|exact y0|refine y1 ?_|refine y2 ?_ ?_|(refine y8 ?_ ?_<;>intro h<;>try exact y6)|(refine wC ?_;first|refine wF 28 (cm c1 ?_)|refine wF 29 (cm c2 ?_))|exact u64_in (by omega) (by omega)|exact i64_in (by omega) (by omega)|refine y3 ?_|refine y7 ?_ ?_|refine y4 ?_|(refine y9 ?_ ?_<;>intro h)|exact y5|fail)
   all_goals first
    |exact⟨.inl rfl,_,[],VLe.refl _,EndOK.by rfl ⟨rfl,trivial⟩ rfl rfl rfl rfl⟩
    |omega
    |exact u64_in (by omega) (by omega)
    |exact i64_in (by omega) (by omega)
 by_cases k3:k=3∨k=8∨k=13
 ·obtain⟨m,i2,hm2,hi2,c2⟩:=next_c l hl 3 (by decide) (by decide) i1 hi1
  obtain⟨r,o,d⟩:=leaf_e 6 m [] (by omega) (by simp);refine⟨r,i2,o.le (by decide),hi2,?_⟩
  rcases k3 with rfl|rfl|rfl
  all_goals
   refine FC.walk (by kernel_rfl) Tryz.func130 rfl rfl ?_
   repeat'(first|exact y0|refine y1 ?_|refine y2 ?_ ?_|(refine y8 ?_ ?_<;>intro h<;>try exact y6)|(refine wC ?_;first|refine wF 28 (cm c1 ?_)|refine wF 28 (cm c2 ?_)|(refine wF 48 ?_;refine CallG.we d rfl ⟨VLe.refl _,VLe.refl _,VLe.refl _,VLe.s SLe.nil,trivial⟩ rfl rfl rfl ?_))|exact u64_in (by omega) (by omega)|exact i64_in (by omega) (by omega)|refine y3 ?_|refine y7 ?_ ?_|refine y4 ?_|(refine y9 ?_ ?_<;>intro h)|exact y5|fail)
   all_goals first
    |exact⟨.inl rfl,_,[],VLe.refl _,EndOK.by rfl ⟨rfl,trivial⟩ rfl rfl rfl rfl⟩
    |omega
    |exact u64_in (by omega) (by omega)
    |exact i64_in (by omega) (by omega)
 by_cases k4:k=4∨k=9∨k=14
 ·obtain⟨s,i2,hs,hi2,c2⟩:=name_c l hl i1 hi1
  obtain⟨r,o,d⟩:=name_e s (by omega);refine⟨r,i2,o.le (by decide),hi2,?_⟩
  rcases k4 with rfl|rfl|rfl
  all_goals
   refine FC.walk (by kernel_rfl) Tryz.func130 rfl rfl ?_
   repeat'(first|exact y0|refine y1 ?_|refine y2 ?_ ?_|(refine y8 ?_ ?_<;>intro h<;>try exact y6)|(refine wC ?_;first|refine wF 28 (cm c1 ?_)|refine wF 49 (cm c2 ?_)|refine wF 26 (pu d ?_))|exact u64_in (by omega) (by omega)|exact i64_in (by omega) (by omega)|refine y3 ?_|refine y7 ?_ ?_|refine y4 ?_|(refine y9 ?_ ?_<;>intro h)|exact y5|fail)
   all_goals first
    |exact⟨.inl rfl,_,[],VLe.refl _,EndOK.by rfl ⟨rfl,trivial⟩ rfl rfl rfl rfl⟩
    |omega
    |exact u64_in (by omega) (by omega)
    |exact i64_in (by omega) (by omega)
 by_cases k0:k=0∨k=5∨k=10∨k=15
 ·obtain⟨x,i2,hx,hi2,c2⟩:=number_c l hl i1 hi1
  obtain⟨r,o,d⟩:=int_e x hx;refine⟨r,i2,o.le (by decide),hi2,?_⟩
  rcases k0 with rfl|rfl|rfl|rfl
  all_goals
   refine FC.walk (by kernel_rfl) Tryz.func130 rfl rfl ?_
   repeat'(first|exact y0|refine y1 ?_|refine y2 ?_ ?_|(refine y8 ?_ ?_<;>intro h<;>try exact y6)|(refine wC ?_;first|refine wF 28 (cm c1 ?_)|refine wF 30 (cm c2 ?_)|refine wF 27 (pu d ?_))|exact u64_in (by omega) (by omega)|exact i64_in (by omega) (by omega)|refine y3 ?_|refine y7 ?_ ?_|refine y4 ?_|(refine y9 ?_ ?_<;>intro h)|exact y5|fail)
   all_goals first
    |exact⟨.inl rfl,_,[],VLe.refl _,EndOK.by rfl ⟨rfl,trivial⟩ rfl rfl rfl rfl⟩
    |omega
    |exact u64_in (by omega) (by omega)
    |exact i64_in (by omega) (by omega)
 omega
end Go.Proofs.YtbokilgdefkmiaaGreatDoor
namespace Go.Proofs.YtbokilgdefkmiaaGreatDoor
namespace Ab
open Go
section
variable {P:Program} {ops:Array Oper} {d:Bool} {acc:List Row} {os:List Oper} {o:Oper} {env:List V} {n:Nat} {L:Hp} {R:Post} {f:FuncId} {xs:Array Operand}
theorem CallG.pl {α:Type} (g:α→S) (dflt:α) (K:List α) (hp:∀ r∈K,pureS (g r)=true) {args:List V} {v:V} (sc:FC P f args 0 [] v 0 []) {t:Tmp} (hx:xs.toList.getLast? =some (.tmp t)) {i N:Nat} {bl:Bl} (ht:sliceOf (env.getD t .undef)=some (i,N)) (hl:lk L i=some bl) (hro:bl.ro=false) (hk:bl.kind=none)
 (hN:N=K.length) (hc:bl.cells=K.map g)
 {args1:List V} (ha:xs.toList.map (ev (env.set t (.s (.frz (fun k=>[g (K.getD k dflt)]) 1 K.length))))=args1) (hle:All2 VLe args1 args) (h1:args.all (okV 0)=true) (h2:okV 0 v=true)
 (hw:want ops env o=some true) (k:RegX P ops d (pushR d o [i] [(i,none)] acc) os (setD env o.dst v) n (puts L [(i,none)]) R):CallG P ops d acc o f xs os env n L R:=by
 subst hN;refine CallG.pz t (fun k=>[g (K.getD k dflt)]) 1 sc ht hl hro hk (fun _ _=>rfl) (fun kk jj x hkk hjx=>?_) ha hle h1 h2 hw k
 cases jj with
 |succ j=>simp at hjx
 |zero=>
  simp only[List.getElem?_cons_zero,Option.some.injEq] at hjx;subst hjx;rw[hc,Nat.mul_one,Nat.add_zero,List.getElem?_map,List.getElem?_eq_getElem hkk,List.getD_eq_getElem?_getD,List.getElem?_eq_getElem hkk];exact⟨rfl,hp _ (List.getElem_mem hkk)⟩
end
end Ab
end Go.Proofs.YtbokilgdefkmiaaGreatDoor
namespace Go.Proofs.YtbokilgdefkmiaaGreatDoor
open Go Ab
set_option maxRecDepth 100000
set_option maxHeartbeats 2000000
theorem expr_s (l:List Int) (hl:l.length≤20000000000000) (dep:Int) (h1:1≤dep) (h2:dep≤9) (args B:Nat) (ha:args≤100) (hB1:100≤B) (hB2:B≤30000)
 (hE:ExprE l (dep-1) args B) (hE2:0<dep-1→ExprE l (dep-1-1) args B):ExprE l dep args (2+3*B):=by
 intro i hi
 have hd0: ¬dep≤0:=by omega
 obtain⟨k,i1,hk,hi1,c1⟩:=next_c l hl 16 (by decide) (by decide) i hi;by_cases k1:k=1
 ·obtain⟨r,i2,o,hi2,c2⟩:=targ_e l hl 0 (by decide) (by decide) args 1 ha (by decide) (by decide) (fun h=>absurd h (by decide)) i1 hi1
  refine⟨r,i2,o.le (by omega),hi2,?_⟩;subst k1;refine FC.walk (by kernel_rfl) Tryz.func130 rfl rfl ?_
  repeat'(first|exact y0|refine y1 ?_|refine y2 ?_ ?_|(refine y8 ?_ ?_<;>intro h<;>try exact y6)|(refine wC ?_;first|refine wF 28 (cm c1 ?_)|refine wF 133 (cm c2 ?_))|exact u64_in (by omega) (by omega)|exact i64_in (by omega) (by omega)|refine y3 ?_|refine y7 ?_ ?_|refine y4 ?_|(refine y9 ?_ ?_<;>intro h)|exact y5|fail)
  all_goals first
   |exact⟨.inl rfl,_,[],VLe.refl _,EndOK.by rfl ⟨rfl,trivial⟩ rfl rfl rfl rfl⟩
   |omega
   |exact u64_in (by omega) (by omega)
   |exact i64_in (by omega) (by omega)
 by_cases k2:k=2
 ·obtain⟨r,i2,o,hi2,c2⟩:=data_e l hl 1 (by decide) i1 hi1
  refine⟨r,i2,o.le (by omega),hi2,?_⟩;subst k2;refine FC.walk (by kernel_rfl) Tryz.func130 rfl rfl ?_
  repeat'(first|exact y0|refine y1 ?_|refine y2 ?_ ?_|(refine y8 ?_ ?_<;>intro h<;>try exact y6)|(refine wC ?_;first|refine wF 28 (cm c1 ?_)|refine wF 29 (cm c2 ?_))|exact u64_in (by omega) (by omega)|exact i64_in (by omega) (by omega)|refine y3 ?_|refine y7 ?_ ?_|refine y4 ?_|(refine y9 ?_ ?_<;>intro h)|exact y5|fail)
  all_goals first
   |exact⟨.inl rfl,_,[],VLe.refl _,EndOK.by rfl ⟨rfl,trivial⟩ rfl rfl rfl rfl⟩
   |omega
   |exact u64_in (by omega) (by omega)
   |exact i64_in (by omega) (by omega)
 by_cases k3:k=3
 ·obtain⟨m,i2,hm2,hi2,c2⟩:=next_c l hl 3 (by decide) (by decide) i1 hi1
  obtain⟨r,o,d⟩:=leaf_e 6 m [] (by omega) (by simp);refine⟨r,i2,o.le (by omega),hi2,?_⟩;subst k3;refine FC.walk (by kernel_rfl) Tryz.func130 rfl rfl ?_
  repeat'(first|exact y0|refine y1 ?_|refine y2 ?_ ?_|(refine y8 ?_ ?_<;>intro h<;>try exact y6)|(refine wC ?_;first|refine wF 28 (cm c1 ?_)|refine wF 28 (cm c2 ?_)|(refine wF 48 ?_;refine CallG.we d rfl ⟨VLe.refl _,VLe.refl _,VLe.refl _,VLe.s SLe.nil,trivial⟩ rfl rfl rfl ?_))|exact u64_in (by omega) (by omega)|exact i64_in (by omega) (by omega)|refine y3 ?_|refine y7 ?_ ?_|refine y4 ?_|(refine y9 ?_ ?_<;>intro h)|exact y5|fail)
  all_goals first
   |exact⟨.inl rfl,_,[],VLe.refl _,EndOK.by rfl ⟨rfl,trivial⟩ rfl rfl rfl rfl⟩
   |omega
   |exact u64_in (by omega) (by omega)
   |exact i64_in (by omega) (by omega)
 by_cases k4:k=4
 ·obtain⟨s,i2,hs,hi2,c2⟩:=name_c l hl i1 hi1
  obtain⟨r,o,d⟩:=name_e s (by omega);refine⟨r,i2,o.le (by omega),hi2,?_⟩;subst k4;refine FC.walk (by kernel_rfl) Tryz.func130 rfl rfl ?_
  repeat'(first|exact y0|refine y1 ?_|refine y2 ?_ ?_|(refine y8 ?_ ?_<;>intro h<;>try exact y6)|(refine wC ?_;first|refine wF 28 (cm c1 ?_)|refine wF 49 (cm c2 ?_)|refine wF 26 (pu d ?_))|exact u64_in (by omega) (by omega)|exact i64_in (by omega) (by omega)|refine y3 ?_|refine y7 ?_ ?_|refine y4 ?_|(refine y9 ?_ ?_<;>intro h)|exact y5|fail)
  all_goals first
   |exact⟨.inl rfl,_,[],VLe.refl _,EndOK.by rfl ⟨rfl,trivial⟩ rfl rfl rfl rfl⟩
   |omega
   |exact u64_in (by omega) (by omega)
   |exact i64_in (by omega) (by omega)
 by_cases k5_6_7:k=5∨k=6∨k=7
 ·obtain⟨m,i2,hm2,hi2,c2⟩:=next_c l hl 17 (by decide) (by decide) i1 hi1
  obtain⟨r1,i3,o1,hi3,c3⟩:=hE i2 hi2;obtain⟨r2,i4,o2,hi4,c4⟩:=hE i3 hi3;obtain⟨r,o,dn⟩:=node_e (60+(m:Int)) [r1,r2] (B:=B) (2+3*B) (by simp[o1,o2]) (by first|(simp;done)|(simp;omega)) (by simp) (by first|(simp;done)|(simp;omega));refine⟨r,i4,o,hi4,?_⟩
  rcases k5_6_7 with rfl|rfl|rfl
  all_goals
   refine FC.walk (by kernel_rfl) Tryz.func130 rfl rfl ?_
   repeat'(first|exact y0|refine y1 ?_|refine y2 ?_ ?_|(refine y8 ?_ ?_<;>intro h<;>try exact y6)|(refine wC ?_;first|refine wF 28 (cm c1 ?_)|refine wF 28 (cm c2 ?_)|refine wF 130 (cm c3 ?_)|refine wF 130 (cm c4 ?_)|(refine wF 25 ?_;refine CallG.pl nS [] [r1,r2] (fun _ _=>rfl) dn rfl rfl rfl rfl rfl (by first|rfl|simp) (by first|rfl|simp|(rw[List.map_append];rfl)) rfl ⟨VLe.refl _,VLe.refl _,trivial⟩ rfl rfl rfl ?_))|exact u64_in (by omega) (by omega)|exact i64_in (by omega) (by omega)|refine y3 ?_|refine y7 ?_ ?_|refine y4 ?_|(refine y9 ?_ ?_<;>intro h)|exact y5|fail)
   all_goals first
    |exact⟨.inl rfl,_,[],VLe.refl _,EndOK.by rfl ⟨rfl,trivial⟩ rfl rfl rfl rfl⟩
    |omega
    |exact u64_in (by omega) (by omega)
    |exact i64_in (by omega) (by omega)
 by_cases k8_9:k=8∨k=9
 ·obtain⟨m,i2,hm2,hi2,c2⟩:=next_c l hl 8 (by decide) (by decide) i1 hi1
  obtain⟨r1,i3,o1,hi3,c3⟩:=hE i2 hi2;obtain⟨r,o,dn⟩:=node_e (77+(m:Int)) [r1] (B:=B) (2+3*B) (by simp[o1]) (by first|(simp;done)|(simp;omega)) (by simp) (by first|(simp;done)|(simp;omega));refine⟨r,i3,o,hi3,?_⟩
  rcases k8_9 with rfl|rfl
  all_goals
   refine FC.walk (by kernel_rfl) Tryz.func130 rfl rfl ?_
   repeat'(first|exact y0|refine y1 ?_|refine y2 ?_ ?_|(refine y8 ?_ ?_<;>intro h<;>try exact y6)|(refine wC ?_;first|refine wF 28 (cm c1 ?_)|refine wF 28 (cm c2 ?_)|refine wF 130 (cm c3 ?_)|(refine wF 25 ?_;refine CallG.pl nS [] [r1] (fun _ _=>rfl) dn rfl rfl rfl rfl rfl (by first|rfl|simp) (by first|rfl|simp|(rw[List.map_append];rfl)) rfl ⟨VLe.refl _,VLe.refl _,trivial⟩ rfl rfl rfl ?_))|exact u64_in (by omega) (by omega)|exact i64_in (by omega) (by omega)|refine y3 ?_|refine y7 ?_ ?_|refine y4 ?_|(refine y9 ?_ ?_<;>intro h)|exact y5|fail)
   all_goals first
    |exact⟨.inl rfl,_,[],VLe.refl _,EndOK.by rfl ⟨rfl,trivial⟩ rfl rfl rfl rfl⟩
    |omega
    |exact u64_in (by omega) (by omega)
    |exact i64_in (by omega) (by omega)
 by_cases k10:k=10
 ·obtain⟨r1,i2,o1,hi2,c2⟩:=targ_e l hl (dep-1) (by omega) (by omega) args B ha (by omega) (by omega) hE2 i1 hi1
  obtain⟨r,o,dn⟩:=node_e 85 [r1] (B:=1+2*B) (2+3*B) (by simp[o1]) (by first|(simp;done)|(simp;omega)) (by simp) (by first|(simp;done)|(simp;omega));refine⟨r,i2,o,hi2,?_⟩;subst k10;refine FC.walk (by kernel_rfl) Tryz.func130 rfl rfl ?_
  repeat'(first|exact y0|refine y1 ?_|refine y2 ?_ ?_|(refine y8 ?_ ?_<;>intro h<;>try exact y6)|(refine wC ?_;first|refine wF 28 (cm c1 ?_)|refine wF 133 (cm c2 ?_)|(refine wF 25 ?_;refine CallG.pl nS [] [r1] (fun _ _=>rfl) dn rfl rfl rfl rfl rfl (by first|rfl|simp) (by first|rfl|simp|(rw[List.map_append];rfl)) rfl ⟨VLe.refl _,VLe.refl _,trivial⟩ rfl rfl rfl ?_))|exact u64_in (by omega) (by omega)|exact i64_in (by omega) (by omega)|refine y3 ?_|refine y7 ?_ ?_|refine y4 ?_|(refine y9 ?_ ?_<;>intro h)|exact y5|fail)
  all_goals first
   |exact⟨.inl rfl,_,[],VLe.refl _,EndOK.by rfl ⟨rfl,trivial⟩ rfl rfl rfl rfl⟩
   |omega
   |exact u64_in (by omega) (by omega)
   |exact i64_in (by omega) (by omega)
 by_cases k11:k=11
 ·obtain⟨r1,i2,o1,hi2,c2⟩:=targ_e l hl (dep-1) (by omega) (by omega) args B ha (by omega) (by omega) hE2 i1 hi1
  obtain⟨r,o,dn⟩:=node_e 87 [r1] (B:=1+2*B) (2+3*B) (by simp[o1]) (by first|(simp;done)|(simp;omega)) (by simp) (by first|(simp;done)|(simp;omega));refine⟨r,i2,o,hi2,?_⟩;subst k11;refine FC.walk (by kernel_rfl) Tryz.func130 rfl rfl ?_
  repeat'(first|exact y0|refine y1 ?_|refine y2 ?_ ?_|(refine y8 ?_ ?_<;>intro h<;>try exact y6)|(refine wC ?_;first|refine wF 28 (cm c1 ?_)|refine wF 133 (cm c2 ?_)|(refine wF 25 ?_;refine CallG.pl nS [] [r1] (fun _ _=>rfl) dn rfl rfl rfl rfl rfl (by first|rfl|simp) (by first|rfl|simp|(rw[List.map_append];rfl)) rfl ⟨VLe.refl _,VLe.refl _,trivial⟩ rfl rfl rfl ?_))|exact u64_in (by omega) (by omega)|exact i64_in (by omega) (by omega)|refine y3 ?_|refine y7 ?_ ?_|refine y4 ?_|(refine y9 ?_ ?_<;>intro h)|exact y5|fail)
  all_goals first
   |exact⟨.inl rfl,_,[],VLe.refl _,EndOK.by rfl ⟨rfl,trivial⟩ rfl rfl rfl rfl⟩
   |omega
   |exact u64_in (by omega) (by omega)
   |exact i64_in (by omega) (by omega)
 by_cases k12:k=12
 ·obtain⟨s,i2,hs,hi2,c2⟩:=name_c l hl i1 hi1
  obtain⟨r1,o1,d⟩:=name_e s (by omega);obtain⟨r,o,dn⟩:=node_e 86 [r1] (B:=1) 2 (by simp[o1]) (by simp) (by simp) (by simp);refine⟨r,i2,o.le (by omega),hi2,?_⟩;subst k12;refine FC.walk (by kernel_rfl) Tryz.func130 rfl rfl ?_
  repeat'(first|exact y0|refine y1 ?_|refine y2 ?_ ?_|(refine y8 ?_ ?_<;>intro h<;>try exact y6)|(refine wC ?_;first|refine wF 28 (cm c1 ?_)|refine wF 49 (cm c2 ?_)|refine wF 26 (pu d ?_)|(refine wF 25 ?_;refine CallG.pl nS [] [r1] (fun _ _=>rfl) dn rfl rfl rfl rfl rfl (by first|rfl|simp) (by first|rfl|simp|(rw[List.map_append];rfl)) rfl ⟨VLe.refl _,VLe.refl _,trivial⟩ rfl rfl rfl ?_))|exact u64_in (by omega) (by omega)|exact i64_in (by omega) (by omega)|refine y3 ?_|refine y7 ?_ ?_|refine y4 ?_|(refine y9 ?_ ?_<;>intro h)|exact y5|fail)
  all_goals first
   |exact⟨.inl rfl,_,[],VLe.refl _,EndOK.by rfl ⟨rfl,trivial⟩ rfl rfl rfl rfl⟩
   |omega
   |exact u64_in (by omega) (by omega)
   |exact i64_in (by omega) (by omega)
 by_cases k13:k=13
 ·obtain⟨r1,i2,o1,hi2,c2⟩:=hE i1 hi1
  obtain⟨r2,i3,o2,hi3,c3⟩:=hE i2 hi2;obtain⟨r3,i4,o3,hi4,c4⟩:=hE i3 hi3;obtain⟨r,o,dn⟩:=node_e 88 [r1,r2,r3] (B:=B) (2+3*B) (by simp[o1,o2,o3]) (by first|(simp;done)|(simp;omega)) (by simp) (by first|(simp;done)|(simp;omega));refine⟨r,i4,o,hi4,?_⟩;subst k13;refine FC.walk (by kernel_rfl) Tryz.func130 rfl rfl ?_
  repeat'(first|exact y0|refine y1 ?_|refine y2 ?_ ?_|(refine y8 ?_ ?_<;>intro h<;>try exact y6)|(refine wC ?_;first|refine wF 28 (cm c1 ?_)|refine wF 130 (cm c2 ?_)|refine wF 130 (cm c3 ?_)|refine wF 130 (cm c4 ?_)|(refine wF 25 ?_;refine CallG.pl nS [] [r1,r2,r3] (fun _ _=>rfl) dn rfl rfl rfl rfl rfl (by first|rfl|simp) (by first|rfl|simp|(rw[List.map_append];rfl)) rfl ⟨VLe.refl _,VLe.refl _,trivial⟩ rfl rfl rfl ?_))|exact u64_in (by omega) (by omega)|exact i64_in (by omega) (by omega)|refine y3 ?_|refine y7 ?_ ?_|refine y4 ?_|(refine y9 ?_ ?_<;>intro h)|exact y5|fail)
  all_goals first
   |exact⟨.inl rfl,_,[],VLe.refl _,EndOK.by rfl ⟨rfl,trivial⟩ rfl rfl rfl rfl⟩
   |omega
   |exact u64_in (by omega) (by omega)
   |exact i64_in (by omega) (by omega)
 by_cases k14:k=14
 ·obtain⟨r,i2,o,hi2,c2⟩:=call_e l hl dep (by omega) (by omega) args B ha (by omega) (by omega) hE i1 hi1
  refine⟨r,i2,o.le (by omega),hi2,?_⟩;subst k14;refine FC.walk (by kernel_rfl) Tryz.func130 rfl rfl ?_
  repeat'(first|exact y0|refine y1 ?_|refine y2 ?_ ?_|(refine y8 ?_ ?_<;>intro h<;>try exact y6)|(refine wC ?_;first|refine wF 28 (cm c1 ?_)|refine wF 131 (cm c2 ?_))|exact u64_in (by omega) (by omega)|exact i64_in (by omega) (by omega)|refine y3 ?_|refine y7 ?_ ?_|refine y4 ?_|(refine y9 ?_ ?_<;>intro h)|exact y5|fail)
  all_goals first
   |exact⟨.inl rfl,_,[],VLe.refl _,EndOK.by rfl ⟨rfl,trivial⟩ rfl rfl rfl rfl⟩
   |omega
   |exact u64_in (by omega) (by omega)
   |exact i64_in (by omega) (by omega)
 by_cases k15:k=15
 ·obtain⟨r,i2,o,hi2,c2⟩:=sync_e l hl dep (by omega) (by omega) args B ha (by omega) (by omega) hE i1 hi1
  refine⟨r,i2,o.le (by omega),hi2,?_⟩;subst k15;refine FC.walk (by kernel_rfl) Tryz.func130 rfl rfl ?_
  repeat'(first|exact y0|refine y1 ?_|refine y2 ?_ ?_|(refine y8 ?_ ?_<;>intro h<;>try exact y6)|(refine wC ?_;first|refine wF 28 (cm c1 ?_)|refine wF 132 (cm c2 ?_))|exact u64_in (by omega) (by omega)|exact i64_in (by omega) (by omega)|refine y3 ?_|refine y7 ?_ ?_|refine y4 ?_|(refine y9 ?_ ?_<;>intro h)|exact y5|fail)
  all_goals first
   |exact⟨.inl rfl,_,[],VLe.refl _,EndOK.by rfl ⟨rfl,trivial⟩ rfl rfl rfl rfl⟩
   |omega
   |exact u64_in (by omega) (by omega)
   |exact i64_in (by omega) (by omega)
 by_cases k0:k=0
 ·obtain⟨x,i2,hx,hi2,c2⟩:=number_c l hl i1 hi1
  obtain⟨r,o,d⟩:=int_e x hx;refine⟨r,i2,o.le (by omega),hi2,?_⟩;subst k0;refine FC.walk (by kernel_rfl) Tryz.func130 rfl rfl ?_
  repeat'(first|exact y0|refine y1 ?_|refine y2 ?_ ?_|(refine y8 ?_ ?_<;>intro h<;>try exact y6)|(refine wC ?_;first|refine wF 28 (cm c1 ?_)|refine wF 30 (cm c2 ?_)|refine wF 27 (pu d ?_))|exact u64_in (by omega) (by omega)|exact i64_in (by omega) (by omega)|refine y3 ?_|refine y7 ?_ ?_|refine y4 ?_|(refine y9 ?_ ?_<;>intro h)|exact y5|fail)
  all_goals first
   |exact⟨.inl rfl,_,[],VLe.refl _,EndOK.by rfl ⟨rfl,trivial⟩ rfl rfl rfl rfl⟩
   |omega
   |exact u64_in (by omega) (by omega)
   |exact i64_in (by omega) (by omega)
 omega
theorem expr_e (l:List Int) (hl:l.length≤20000000000000) (args:Nat) (ha:args≤100):∀ dep:Int,-10≤dep→dep≤3→ExprE l dep args 3000:=by
 have up:∀ {B C:Nat} {dep:Int},B≤C→ExprE l dep args B→ExprE l dep args C:=fun hbc h i hi=>by
  obtain⟨r,i',o,h⟩:=h i hi;exact⟨r,i',o.le hbc,h⟩
 have e0:∀ dep:Int,-10≤dep→dep≤0→ExprE l dep args 100:=fun dep h1 h2=>expr_0 l hl dep h1 h2 args ha
 have e1:ExprE l 1 args 302:=expr_s l hl 1 (by decide) (by decide) args 100 ha (by decide) (by decide) (e0 _ (by decide) (by decide)) (fun h=>absurd h (by decide));have e2:ExprE l 2 args 908:=expr_s l hl 2 (by decide) (by decide) args 302 ha (by decide) (by decide) e1 (fun _=>up (by decide) (e0 _ (by decide) (by decide)));have e3:ExprE l 3 args 2726:=expr_s l hl 3 (by decide) (by decide) args 908 ha (by decide) (by decide) e2 (fun _=>up (by decide) e1);intro dep h1 h2;by_cases h:dep≤0
 ·exact up (by decide) (e0 dep h1 h)
 ·rcases (by omega:dep=1∨dep=2∨dep=3) with rfl|rfl|rfl
  ·exact up (by decide) e1
  ·exact up (by decide) e2
  ·exact up (by decide) e3
end Go.Proofs.YtbokilgdefkmiaaGreatDoor
namespace Go.Proofs.YtbokilgdefkmiaaGreatDoor
namespace Ab
open Go
section
variable {P:Program} {ops:Array Oper} {d:Bool} {acc:List Row} {os:List Oper} {o:Oper} {env:List V} {n:Nat} {L:Hp} {R:Post} {f:FuncId} {xs:Array Operand}
theorem CallG.mz {α:Type} (q:Nat) (g:α→S) (dflt:α) (K:List α) (hp:∀ r∈K,pureS (g r)=true) (tbl:List Nat) {args0:List V} {L0:Hp} {v0:V} {n0':Nat} {L0':Hp} (sc:FC P f args0 tbl.length L0 v0 n0' L0')
 {t:Tmp} (hx:xs.toList[q]? =some (.tmp t)) {i N:Nat} {bl:Bl} (ht:sliceOf (env.getD t .undef)=some (i,N)) (hl:lk L i=some bl) (hro:bl.ro=false) (hk:bl.kind=none) (hN:N=K.length) (hc:bl.cells=K.map g)
 (hchk:(args0.all (okV tbl.length)&&okH tbl.length L0&&allSaid L0 L0'&&nodupB (keys L0')&&Nat.ble tbl.length n0'&&oldB tbl n n0'&&aliB tbl L0)=true) {args1:List V} (ha:xs.toList.map (ev (env.set t (.s (.frz (fun k=>[g (K.getD k dflt)]) 1 K.length))))=args1) (hle:All2 VLe args1 (args0.map (renV (rn tbl n)))) (ft:FitP tbl n (put (res (i::tbl) L) i none) L0)
 (hw:want ops env o=some true) {v:V} (hv:frcV (renV (rn tbl n) v0) some=some v) {wr:Hp} (hwr:frc (callWr tbl n L0 L0') [] some=some wr)
 (k:RegX P ops d (pushR d o (i::tbl) ((i,none)::wr) acc) os (setD env o.dst v) (n+(n0'-tbl.length)) (puts L ((i,none)::wr)) R):CallG P ops d acc o f xs os env n L R:=by
 subst hN;refine⟨fun⟨ts,ho⟩=>?_⟩;obtain⟨hf,sc⟩:=sc;rw[frcV_eq] at hv;cases hv;rw[frc_eq] at hwr;cases hwr;simp only[Bool.and_eq_true] at hchk;obtain⟨⟨⟨⟨⟨⟨k1,k2⟩,k3⟩,k4⟩,k5⟩,k6⟩,k7⟩:=hchk;unfold fnOK at hf;split at hf
 ·rename_i fn hfn
  simp only[Bool.and_eq_true,Bool.not_eq_true'] at hf;have h:=SC.opW (n:=n) (env:=env.set t (.s (.frz (fun k=>[g (K.getD k dflt)]) 1 K.length))) (M:=put (res (i::tbl) L) i none) sc k1 k2 ho rfl hfn hf.1 hf.2 (ha▸hle) (Fits.of k6 k7 ft) (after_callWr k3 k4)
  have e1:lk (res (i::tbl) L) i=some bl:=by rw[lk_res];simp[hl]
  refine RegX.op (foot:=i::tbl) (wr:=(i,none)::callWr tbl n L0 L0') hw ?_ (Nat.le_add_right _ _) k;refine OpL.preFz t (fun k=>[g (K.getD k dflt)]) 1 ht e1 hro hk (fun _ _=>rfl) (fun kk jj x hkk hjx=>?_) h
  cases jj with
  |succ j=>simp at hjx
  |zero=>
   simp only[List.getElem?_cons_zero,Option.some.injEq] at hjx;subst hjx;rw[hc,Nat.mul_one,Nat.add_zero,List.getElem?_map,List.getElem?_eq_getElem hkk,List.getD_eq_getElem?_getD,List.getElem?_eq_getElem hkk];exact⟨rfl,hp _ (List.getElem_mem hkk)⟩
 ·cases hf
end
end Ab
end Go.Proofs.YtbokilgdefkmiaaGreatDoor
