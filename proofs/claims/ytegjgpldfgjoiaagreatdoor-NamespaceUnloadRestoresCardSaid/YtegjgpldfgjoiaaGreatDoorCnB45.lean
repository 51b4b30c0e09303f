import Derived.Test.YtegjgpldfgjoiaaGreatDoorCnB44
import Derived.Test.YtegjgpldfgjoiaaGreatDoorCnB33
import Derived.Test.YtegjgpldfgjoiaaGreatDoorCnB37
set_option linter.unusedSimpArgs false
set_option linter.unusedVariables false
namespace Go.Proofs.YtegjgpldfgjoiaaGreatDoor
open Go Ab
set_option maxRecDepth 100000
set_option maxHeartbeats 2000000
theorem uS {p:List Nd} {num:Int} {m:Nat} {A B:List Ent} (h:Gro p num m A B):m<=A.length->(∀ k,m<=k->k<A.length->(A.getD k eZ).tab=num)->B.take m=A.take m/\∀ k,m<=k->k<B.length->(B.getD k eZ).tab=num:=by
 induction h with
 |refl=>exact fun _ h=>⟨rfl,h⟩
 | @add E0 E1 E2 i sc q hi h _ ih=>
   intro hm ht;obtain⟨ab,c,hp,hc,rfl⟩:=h.up
   have hlen:(E0++[dG (aL q) (p.getD i dN).op c num i]).length=E0.length+1:=by simp
   obtain⟨g1,g2⟩:=ih (by omega) fun k h1 h2=>by
    rcases Nat.lt_or_ge k E0.length with e|e
    ·rw[bG e];exact ht k h1 e
    ·obtain rfl:k=E0.length:=by omega
     simp[dG]
   exact⟨by rw[g1,List.take_append_of_le_length hm],g2⟩
 | @spec E0 E2 j y hm' hj hs _ ih=>
   intro hm ht
   obtain⟨g1,g2⟩:=ih (by rw[List.length_set];exact hm) fun k h1 h2=>by
    rw[List.length_set] at h2;rw[iW hj];split
    ·rename_i e;subst e
     have:=hs.2.2.2.1;rw[this];exact ht _ h1 h2
    ·exact ht k h1 h2
   exact⟨by rw[g1,List.take_set_of_le hm'],g2⟩
theorem oC {α:Type}:∀ (A B:List α) (b:Nat),nuX b (A++B)=nuX b A++nuX (b+A.length) B
 |[],B,b=>rfl
 |x::t,B,b=>by
  rw[List.cons_append,nuX,oC t B (b+1),nuX];simp only[List.cons_append,List.length_cons];rw[show b+1+t.length=b+(t.length+1) by omega]
theorem eu {α:Type} (d:α):∀ (A:List α) (b:Nat) (x:Nat×α),x∈nuX b A->b<=x.1/\x.1-b<A.length/\x.2=A.getD (x.1-b) d
 |[],_,_,h=>by cases h
 |y::t,b,x,h=>by
  rcases List.mem_cons.1 h with rfl|h
  ·simp
  ·obtain⟨h1,h2,h3⟩:=eu d t (b+1) x h
   refine⟨by omega,by simp only[List.length_cons];omega,?_⟩;rw[show x.1-b=(x.1-(b+1))+1 by omega,List.getD_cons_succ];exact h3
theorem uP:∀ (E:List Ent) (b:Nat),ii (nuX b E)=co (b:Int) E.length
 |[],_=>rfl
 |x::t,b=>by
  have:=uP t (b+1);show (b:Int)::ii (nuX (b+1) t)=(b:Int)::co ((b:Int)+1) t.length;rw[this,show ((b+1:Nat):Int)=(b:Int)+1 by omega]
theorem uT {E:List Ent} {k:Nat} (h:k<E.length):iV (nuX 0 E) (k:Int)=E.getD k eZ:=by
 rw[iV,tv,df E 0 ((0:Nat):Int) (k:Int) k (by omega),List.getD_eq_getElem?_getD]
structure TbOK (E:List Ent) (T:List Tb):Prop where
 tab:∀ k,k<E.length->(E.getD k eZ).tab<=T.length
 root:(E.getD 0 eZ).par= -1
 refs:∀ t∈T,RefG E.length t.r
 len:∀ t∈T,t.r.length<=4096
theorem tb_0:TbOK E0 []:=by
 refine⟨fun k hk=>?_,rfl,fun t h=>(by cases h),fun t h=>(by cases h)⟩
 match k,hk with
 |0,_=>decide
 |1,_=>decide
 |2,_=>decide
 |k+3,h=>exact absurd h (by show ¬k+3<3;omega)
theorem LoadR.tb {p:List Nd} {E E':List Ent} {T T':List Tb} {z e:Int} (h:LoadR p E T E' T' z e) (hl:e=0->∀ rs,T'=T++[⟨p,rs⟩]->rs.length<=4096) (h0:0<E.length) (hT:TbOK E T):TbOK E' T':=by
 rcases h.o with ⟨_,_,rfl,rfl⟩|⟨he,_,rs,rfl,_,g,hr,_,_⟩
 ·exact hT
 ·obtain⟨g1,g2⟩:=uS g (Nat.le_refl _) fun k h1 h2=>by omega
  have hlen:=g.len
  have hlo:∀ k,k<E.length->E'.getD k eZ=E.getD k eZ:=fun k hk=>by
   have:=congrArg (fun l=>l.getD k eZ) g1
   simpa [List.getD_eq_getElem?_getD,List.getElem?_take,hk] using this
  refine⟨fun k hk=>?_,by rw[hlo 0 h0];exact hT.root,fun t ht=>?_,fun t ht=>?_⟩
  ·rw[List.length_append,List.length_singleton]
   rcases Nat.lt_or_ge k E.length with e|e
   ·rw[hlo k e];have:=hT.tab k e;omega
   ·rw[g2 k e hk];omega
  ·rcases List.mem_append.1 ht with e|e
   ·intro r hr'
    have:=hT.refs t e r hr';omega
   ·rw[List.mem_singleton.1 e];exact hr
  ·rcases List.mem_append.1 ht with e|e
   ·exact hT.len t e
   ·rw[List.mem_singleton.1 e];exact hl he rs rfl
theorem zb {p:List Nd} {E E':List Ent} {T T':List Tb} {z:Int} (h:LoadR p E T E' T' z 0) (hT:TbOK E T) (hN:NsOK E' T'):
 ∃ rs,T'=T++[⟨p,rs⟩]/\z=1+(T.length:Int)/\lkM (enT (nuX 0 T')) z=some ⟨p,rs⟩/\kU (nuX 0 E') (nuX 0 T') z=false/\(nuX 0 E').filter (fK z)=nuX 0 E/\(nuX 0 T').filter (oD z)=nuX 0 T/\lkM (enT (nuX 0 T)) z=none:=by
 rcases h.o with ⟨he,_⟩|⟨_,rfl,rs,rfl,_,g,hr,_,_⟩
 ·exact absurd rfl he
 obtain⟨g1,g2⟩:=uS g (Nat.le_refl _) fun k h1 h2=>by omega
 have hlen:=g.len
 have hE:E'=E++E'.drop E.length:=by
  have:=List.take_append_drop E.length E';rw[g1,List.take_of_length_le (Nat.le_refl _)] at this;exact this.symm
 have hlo:∀ k,k<E.length->E'.getD k eZ=E.getD k eZ:=fun k hk=>by rw[hE,List.getD_eq_getElem?_getD,List.getElem?_append_left hk,<-List.getD_eq_getElem?_getD]
 have htb:∀ k,k<E'.length->((E'.getD k eZ).tab=1+(T.length:Int)↔E.length<=k):=fun k hk=>by
  constructor
  ·intro h
   rcases Nat.lt_or_ge k E.length with e|e
   ·rw[hlo k e] at h;have:=hT.tab k e;omega
   ·exact e
  ·intro h;exact g2 k h hk
 refine⟨rs,rfl,rfl,?_,?_,?_,?_,?_⟩
 ·rw[pe,df (α:=Tb) (T++[(⟨p,rs⟩:Tb)]) 0 (1+((0:Nat):Int)) (1+(T.length:Int)) T.length (by omega)];simp
 ·unfold kU
  rw[Bool.or_eq_false_iff];refine⟨List.any_eq_false.2 fun x hx=>?_,List.any_eq_false.2 fun y hy=>?_⟩
  ·obtain⟨x1,x2,x3⟩:=eu eZ _ _ _ hx
   rw[Nat.sub_zero] at x2 x3;unfold fF;simp only[Bool.and_eq_true,Bool.not_eq_true',decide_eq_false_iff_not,decide_eq_true_eq,not_and];intro h1 h2 h3
   have hk:x.1<E.length:=by
    rcases Nat.lt_or_ge x.1 E.length with e|e
    ·exact e
    ·exact absurd (by rw[x3];exact (htb x.1 x2).2 e) h1
   rcases Nat.eq_zero_or_pos x.1 with e|e
   ·rw[x3,e,hlo 0 (by omega),hT.root] at h2
    exact h2 (by decide)
   ·obtain⟨j,j1,j2,_⟩:=hN.q.up x.1 e x2
    rw[x3,j2,uT (by omega)] at h3;have:=(htb j (by omega)).1 h3;omega
  ·obtain⟨y1,y2,y3⟩:=eu (⟨[],[]⟩:Tb) _ _ _ hy
   rw[Nat.sub_zero] at y2 y3;unfold kT;simp only[Bool.and_eq_true,Bool.not_eq_true',decide_eq_false_iff_not,not_and,List.any_eq_true,decide_eq_true_eq,not_exists];intro h1 r hr' h3;rw[List.length_append,List.length_singleton] at y2
   have hj:y.1<T.length:=by omega
   have hm:y.2∈T:=by rw[y3,bG hj,List.getD_eq_getElem?_getD,List.getElem?_eq_getElem hj];exact List.getElem_mem hj
   have hrr:=hT.refs y.2 hm r hr'
   obtain⟨k,rfl⟩:∃ k:Nat,r=(k:Int):=⟨r.toNat,by omega⟩
   rw[uT (by omega)] at h3;have:=(htb k (by omega)).1 h3;omega
 ·rw[hE,oC,List.filter_append]
  rw[List.filter_eq_self.2,List.filter_eq_nil_iff.2,List.append_nil]
  ·intro x hx
   obtain⟨x1,x2,x3⟩:=eu eZ _ _ _ hx;rw[Nat.zero_add] at x1 x2 x3
   have hx2:x.1<E'.length:=by simp only[List.length_drop] at x2;omega
   have:x.2.tab=1+(T.length:Int):=by
    rw[x3];have:=(htb x.1 hx2).2 x1;rw[hE,List.getD_eq_getElem?_getD,List.getElem?_append_right x1,<-List.getD_eq_getElem?_getD] at this;exact this
   simp[fK,this]
  ·intro x hx
   obtain⟨x1,x2,x3⟩:=eu eZ _ _ _ hx;rw[Nat.sub_zero] at x2 x3;have:=hT.tab x.1 x2;rw[<-x3] at this;simp only[fK,Bool.not_eq_true',decide_eq_false_iff_not];omega
 ·rw[oC,List.filter_append,List.filter_eq_self.2,Nat.zero_add]
  ·have:oD (1+(T.length:Int)) (T.length,(⟨p,rs⟩:Tb))=false:=by simp[oD]
   simp[nuX,List.filter_cons,this]
  ·intro y hy
   obtain⟨y1,y2,y3⟩:=eu (⟨[],[]⟩:Tb) _ _ _ hy;simp only[oD,Bool.not_eq_true',decide_eq_false_iff_not];omega
 ·rw[pe,vf]
  split
  ·rfl
  ·rw[List.getElem?_eq_none (by omega)]
theorem PathQ.no {E:List Ent} (h:PathQ E):PNo (nuX 0 E):=by
 have key:∀ (A:List Ent) (b:Nat),(∀ i k,b<=k->k<i->i-b<A.length->(A.getD (i-b) eZ).path≠(A.getD (k-b) eZ).path)->PNo (nuX b A):=by
  intro A
  induction A with
  |nil=>intro b _;exact List.Pairwise.nil
  |cons x t ih=>
   intro b hb;refine List.pairwise_cons.2 ⟨fun y hy=>?_,ih (b+1) fun i k h1 h2 h3=>?_⟩
   ·obtain⟨y1,y2,y3⟩:=eu eZ _ _ _ hy
    have:=hb y.1 b (Nat.le_refl _) (by omega) (by simp only[List.length_cons];omega);rw[show y.1-b=(y.1-(b+1))+1 by omega,List.getD_cons_succ,<-y3,Nat.sub_self,List.getD_cons_zero] at this
    exact fun e=>this e.symm
   ·have:=hb i k (by omega) h2 (by simp only[List.length_cons];omega)
    rw[show i-b=(i-(b+1))+1 by omega,show k-b=(k-(b+1))+1 by omega,List.getD_cons_succ,List.getD_cons_succ] at this;exact this
 exact key E 0 fun i k _ h2 h3=>by rw[Nat.sub_zero] at h3 |-;rw[Nat.sub_zero];exact h.ne i k h2 h3
set_option maxRecDepth 100000
set_option maxHeartbeats 4000000
abbrev unK (c:Nat) (l:List Int):Bl:={cells:=l.map fun z=>S.int .i64 z,ty:=3,more:=true,sym:=true,flat:=true,gh:=some (c+1,1)}
theorem nQ {c:Nat} {l:List Int} (h:0<l.length):unB c l=some (unK c l):=eO (fun e=>by rw[List.map_eq_nil_iff.1 e] at h;exact absurd h (Nat.lt_irrefl 0))
theorem CY {a b:List Int} (hl:a.length=b.length) (h:∀ i,i<a.length->a.getD i 0=b.getD i 0):a=b:=by
 refine List.ext_getElem hl fun i h1 h2=>?_
 have:=h i h1;rw[List.getD_eq_getElem?_getD,List.getD_eq_getElem?_getD,List.getElem?_eq_getElem h1,List.getElem?_eq_getElem h2] at this;exact this
abbrev izF (l:List Int):V:=.s (.frz (fun k=>[.int .i64 (l.getD k 0)]) 1 l.length)
theorem GN (a b:List Int) (hb:a.length<=1000000000000):FC Tryz.prog 39 [izF a,izF b] 0 [] (bV (decide (a=b))) 0 []:=by
 refine FC.walk (by kernel_rfl) Tryz.func39 rfl rfl ?_;by_cases hl:a.length=b.length
 ·
  repeat'(first|exact y0|refine y1 ?_|refine y2 ?_ ?_|(refine y8 ?_ ?_<;>intro h<;>try exact y6)|refine Fin.bool (.inl rfl) rfl ?_|refine y3 ?_|refine y7 ?_ ?_|refine y4 ?_|(refine y9 ?_ ?_<;>intro h)|exact y5|fail)
  refine Ex.inv (σ:=Nat) (fun j=>[(5,nI j)]) (fun _=>[]) (fun j=>j<=a.length/\∀ i,i<j->a.getD i 0=b.getD i 0) (fun j=>a.length-j) 0 rfl (fun _=>rfl) ⟨Nat.zero_le _,fun i hi=>by omega⟩ ⟨VLe.refl _,trivial⟩ trivial ?_;rintro j ⟨hj,hI⟩;by_cases hlt:j<a.length
  ·by_cases he:a.getD j 0=b.getD j 0
   ·
    repeat'(first|exact y0|refine y1 ?_|refine y2 ?_ ?_|(refine y8 ?_ ?_<;>intro h<;>try(exact y6))|refine y3 ?_|refine y7 ?_ ?_|refine y4 ?_|(refine y9 ?_ ?_<;>intro h)|exact y5|fail)
    all_goals try first
     |contradiction
     |exact aa (by omega) (by omega)
    refine LoopR.same (j+1) ⟨by omega,fun i hi=>?_⟩ (by omega) rfl ⟨VLe.refl _,trivial⟩ trivial rfl rfl (by decide)
    rcases Nat.lt_or_ge i j with e|e
    ·exact hI i e
    ·rw[show i=j by omega];exact he
   ·
    repeat'(first|exact y0|refine y1 ?_|refine y2 ?_ ?_|(refine y8 ?_ ?_<;>intro h<;>try(exact y6))|refine Fin.bool (.inl rfl) rfl ?_|refine y3 ?_|refine y7 ?_ ?_|refine y4 ?_|(refine y9 ?_ ?_<;>intro h)|exact y5|fail)
    all_goals (symm;exact decide_eq_false fun e=>he (by rw[e]))
  ·
   repeat'(first|exact y0|refine y1 ?_|refine y2 ?_ ?_|(refine y8 ?_ ?_<;>intro h<;>try(exact y6))|refine Fin.bool (.inl rfl) rfl ?_|refine y3 ?_|refine y7 ?_ ?_|refine y4 ?_|(refine y9 ?_ ?_<;>intro h)|exact y5|fail)
   symm;exact decide_eq_true (CY hl fun i hi=>hI i (by omega))
 ·
  repeat'(first|exact y0|refine y1 ?_|refine y2 ?_ ?_|(refine y8 ?_ ?_<;>intro h<;>try exact y6)|refine Fin.bool (.inl rfl) rfl ?_|refine y3 ?_|refine y7 ?_ ?_|refine y4 ?_|(refine y9 ?_ ?_<;>intro h)|exact y5|fail)
  all_goals (symm;exact decide_eq_false fun e=>hl (by rw[e]))
theorem Cr (X:XE) (nx:Nat) (Y:YT) (nt:Nat) (z:Int) (h:lkM (enT Y) z=none):FC Tryz.prog 33 [.s (.ptr (some (0,0))),nI z] 4 (spX X nx Y nt) (ae []) 4 (spX X nx Y nt):=by
 have hc:=l9 [] (by decide);refine FC.walk (by kernel_rfl) Tryz.func33 rfl rfl ?_
 repeat'(first|exact y0|refine y1 ?_|refine y2 ?_ ?_|(refine y8 ?_ ?_<;>intro h<;>try exact y6)|(refine wC ?_;first|(refine wF 67 ?_;refine CallG.we hc rfl ⟨VLe.s SLe.nil,trivial⟩ rfl rfl rfl ?_))|refine RegX.lk1 (K:=kdI) (agg:=true) (w:=2) (c:=eF) (E:=enT Y) (ck:=nt) (k:=z) none rfl rfl rfl bA (fun h=>by cases h) rfl rfl rfl h rfl ?_|refine y3 ?_|refine y7 ?_ ?_|refine y4 ?_|(refine y9 ?_ ?_<;>intro h)|exact y5|fail)
 exact⟨.inl rfl,_,[],VLe.refl _,EndOK.by rfl ⟨rfl,rfl,rfl,rfl,trivial⟩ rfl rfl rfl rfl⟩
section
variable {P:Program} {b:Nat} {env:List V} {n:Nat} {L:Hp} {R:Post}
theorem Ex.irow6 {ops:Array Oper} {d:Bool} (t i:Nat) (l:List Int) {N:Nat} (hN:l.length=N) (ht:env.getD t .undef=.s (.row i (i+1) N)) (hl:lk L i=unB i l) {env':List V} (he:env.set t (.s (.frz (fun k=>[.int .i64 (l.getD k 0)]) 1 N))=env') {L':Hp} (hL:put L i none=L') (k:Ex P b (.region 6 ops d) env' n L' R):Ex P b (.region 6 ops d) env n L R:=Ex.irow t i l hN ht hl he hL k
end
theorem Up.mono {α:Type} {X:List (Nat×α)} {n m:Nat} (h:Up X n) (hm:n<=m):Up X m:=⟨fun x hx=>Nat.lt_of_lt_of_le (h.lt x hx) hm,h.up⟩
theorem q_ {l:List Int} {k j:Nat} {x:S} (hk:k<l.length) (h:[S.int .i64 (l.getD k 0)][j]? =some x):(l.map fun z=>S.int .i64 z)[k*1+j]? =some x/\aY x=true:=kV l k j x hk h
theorem xB (l1 l2:List Int) (p1 p2:List Nd) (hg1:FC Tryz.prog 14 [.s (chF l1)] 0 [] (ae p1) 0 []) (hg2:FC Tryz.prog 14 [.s (chF l2)] 0 [] (ae p2) 0 []) (haw:FC Tryz.prog 12 [] 0 [] (bV true) 0 [])
 (E1 E:List Ent) (T1 T:List Tb) (z1 e1 z2 e2:Int) (hl1:LoadR p1 E0 [] E1 T1 z1 e1) (hl2:LoadR p2 E1 T1 E T z2 e2) (hN:NsOK E1 T1) (hN2:NsOK E T) (hT:TbOK E1 T1) (hT2:TbOK E T):
 FC Tryz.prog 8 [.s (chF l1),.s (chF l2)] 0 [] (bV true) 0 []:=by
 have hn:=uz;have L1:=hl1.h;have L2:=hl2.h;have n3:=hN.n3;have n1:=hN.n1;have m1:=hN2.n1;have hlen:(co 0 E1.length).length=E1.length:=dC _ _;have ho1:=ju E1 T1 n1;rw[nQ (by omega)] at ho1;have heq:=GN (co 0 E1.length) (co 0 E1.length) (by omega);rw[decide_eq_true rfl] at heq;rw[show izF (co 0 E1.length)=.s (.frz (fun k=>[.int .i64 ((co 0 E1.length).getD k 0)]) 1 E1.length) by rw[izF,hlen]] at heq;refine FC.walk (by kernel_rfl) Tryz.func8 rfl rfl ?_
 repeat'(first|refine Ex.irow6 6 7 (co 0 E1.length) hlen rfl (nQ (by omega)).symm rfl rfl ?_|exact y0|refine y1 ?_|refine y2 ?_ ?_|(refine y8 ?_ ?_<;>intro h<;>try exact y6)|(refine wC ?_;first|refine wF 12 (pu haw ?_)|refine wF 14 (pu hg1 ?_)|(refine wF 10 ?_;refine CallG.me [] hn rfl rfl trivial trivial rfl rfl rfl ?_)|(refine wF 25 ?_;refine CallG.mo [0,1,2,3] L1 rfl rfl rfl rfl rfl ⟨VLe.refl _,VLe.refl _,trivial⟩ ⟨⟨rfl,_,rfl,rfl,fun h=>h⟩,⟨rfl,_,rfl,rfl,fun h=>h⟩,⟨rfl,_,rfl,rfl,fun h=>h⟩,⟨rfl,_,rfl,rfl,fun h=>h⟩,trivial⟩ rfl rfl (wr:=spN E1 T1) (by rfl) ?_)|(refine wF 26 ?_;refine CallG.mo [0,4,5,6] ho1 rfl rfl rfl rfl rfl ⟨VLe.refl _,trivial⟩ ⟨⟨rfl,_,rfl,rfl,fun h=>h⟩,⟨rfl,_,rfl,rfl,fun h=>h⟩,⟨rfl,_,rfl,rfl,fun h=>h⟩,⟨rfl,_,rfl,rfl,fun h=>h⟩,trivial⟩ rfl rfl (wr:=[(0,some (bn 4 5 6 (E1.length:Nat) (1+(T1.length:Int)))),(4,some (oB E1)),(5,some (pB E1)),(6,some (tB T1)),(7,some (unK 7 (co 0 E1.length)))]) (by rfl) ?_)|refine wF 14 (pu hg2 ?_)|(refine wF 25 ?_;refine CallG.mo [0,4,5,6] L2 rfl rfl rfl rfl rfl ⟨VLe.refl _,VLe.refl _,trivial⟩ ⟨⟨rfl,_,rfl,rfl,fun h=>h⟩,⟨rfl,_,rfl,rfl,fun h=>h⟩,⟨rfl,_,rfl,rfl,fun h=>h⟩,⟨rfl,_,rfl,rfl,fun h=>h⟩,trivial⟩ rfl rfl (wr:=[(0,some (bn 9 10 11 (E.length:Nat) (1+(T.length:Int)))),(4,none),(5,none),(6,none),(9,some (oB E)),(10,some (pB E)),(11,some (tB T))]) (by rfl) ?_))|refine y3 ?_|refine y7 ?_ ?_|refine y4 ?_|(refine y9 ?_ ?_<;>intro h)|exact y5|fail)
 ·have hEE:E=E1/\T=T1:=by
   rcases hl2.o with ⟨_,_,a,b⟩|⟨a,_⟩
   ·exact⟨a,b⟩
   ·exact absurd a h
  obtain⟨rfl,rfl⟩:=hEE
  repeat'(first|exact y0|refine y1 ?_|refine y2 ?_ ?_|(refine y8 ?_ ?_<;>intro h<;>try exact y6)|(refine wC ?_;first|(refine wF 26 ?_;refine CallG.mo [0,9,10,11] ho1 rfl rfl rfl rfl rfl ⟨VLe.refl _,trivial⟩ ⟨⟨rfl,_,rfl,rfl,fun h=>h⟩,⟨rfl,_,rfl,rfl,fun h=>h⟩,⟨rfl,_,rfl,rfl,fun h=>h⟩,⟨rfl,_,rfl,rfl,fun h=>h⟩,trivial⟩ rfl rfl (wr:=[(0,some (bn 9 10 11 (E.length:Nat) (1+(T.length:Int)))),(9,some (oB E)),(10,some (pB E)),(11,some (tB T)),(12,some (unK 12 (co 0 E.length)))]) (by rfl) ?_)|(refine wF 39 ?_;refine CallG.pz 28 (fun k=>[.int .i64 ((co 0 E.length).getD k 0)]) 1 heq rfl rfl rfl rfl (fun _ _=>rfl) (fun k j x hk hx=>q_ (by rw[hlen];exact hk) hx) rfl ⟨VLe.refl _,VLe.refl _,trivial⟩ rfl rfl rfl ?_))|refine y3 ?_|refine y7 ?_ ?_|refine y4 ?_|(refine y9 ?_ ?_<;>intro h)|exact y5|fail)
  all_goals exact Fin.bool (.inl rfl) rfl rfl
 ·subst h
  obtain⟨rs,rfl,rfl,q1,q2,q3,q4,q5⟩:=zb hl2 hT hN2
  have hup1:Up (nuX 0 E1) E.length:=(Up.nu E1).mono (by
   rcases hl2.o with ⟨a,_⟩|⟨_,_,_,_,_,g,_⟩
   ·exact absurd rfl a
   ·exact g.len)
  have hu:=BW (nuX 0 E) E.length (nuX 0 (T1++[⟨p2,rs⟩])) (T1++[(⟨p2,rs⟩:Tb)]).length (1+(T1.length:Int)) ⟨p2,rs⟩ (Up.nu _) (by omega) hN2.q.no (Up.nu _) (fun y hy=>by
   obtain⟨y1,y2,y3⟩:=eu (⟨[],[]⟩:Tb) _ _ _ hy;have:=hT2.len y.2 (by rw[y3,List.getD_eq_getElem?_getD,List.getElem?_eq_getElem y2];exact List.getElem_mem y2)
   omega) q1 q2
  rw[q3,q4,<-Gj] at hu;have hu2:=EB (nuX 0 E1) E.length (nuX 0 T1) (T1++[(⟨p2,rs⟩:Tb)]).length (1+(T1.length:Int)) q5;have hp:=Cr (nuX 0 E1) E.length (nuX 0 T1) (T1++[(⟨p2,rs⟩:Tb)]).length (1+(T1.length:Int)) q5;have ho2:=yC (nuX 0 E1) E.length (nuX 0 T1) (T1++[(⟨p2,rs⟩:Tb)]).length hup1 (by omega);rw[uP,show (((0:Nat):Int))=0 from rfl,nQ (by omega),hlen] at ho2;generalize nuX 0 E1=X at*;generalize nuX 0 T1=Y at*
  repeat'(first|exact y0|refine y1 ?_|refine y2 ?_ ?_|(refine y8 ?_ ?_<;>intro h<;>try exact y6)|(refine wC ?_;first|(refine wF 40 ?_;refine CallG.mo [0,9,10,11] hu rfl rfl rfl rfl rfl ⟨VLe.refl _,VLe.refl _,trivial⟩ ⟨⟨rfl,_,rfl,rfl,fun h=>h⟩,⟨rfl,_,rfl,rfl,fun h=>h⟩,⟨rfl,_,rfl,rfl,fun h=>h⟩,⟨rfl,_,rfl,rfl,fun h=>h⟩,trivial⟩ rfl rfl (wr:=[(0,some (bn 9 10 11 (E.length:Nat) (1+((T1++[(⟨p2,rs⟩:Tb)]).length:Int)))),(9,some (oX X E.length)),(10,some (pX X E.length)),(11,some (tX Y (T1++[(⟨p2,rs⟩:Tb)]).length))]) (by rfl) ?_)|(refine wF 40 ?_;refine CallG.me [0,9,10,11] hu2 rfl rfl ⟨VLe.refl _,VLe.refl _,trivial⟩ ⟨⟨rfl,_,rfl,rfl,fun h=>h⟩,⟨rfl,_,rfl,rfl,fun h=>h⟩,⟨rfl,_,rfl,rfl,fun h=>h⟩,⟨rfl,_,rfl,rfl,fun h=>h⟩,trivial⟩ rfl rfl rfl ?_)|(refine wF 26 ?_;refine CallG.mo [0,9,10,11] ho2 rfl rfl rfl rfl rfl ⟨VLe.refl _,trivial⟩ ⟨⟨rfl,_,rfl,rfl,fun h=>h⟩,⟨rfl,_,rfl,rfl,fun h=>h⟩,⟨rfl,_,rfl,rfl,fun h=>h⟩,⟨rfl,_,rfl,rfl,fun h=>h⟩,trivial⟩ rfl rfl (wr:=[(0,some (bn 9 10 11 (E.length:Nat) (1+((T1++[(⟨p2,rs⟩:Tb)]).length:Int)))),(9,some (oX X E.length)),(10,some (pX X E.length)),(11,some (tX Y (T1++[(⟨p2,rs⟩:Tb)]).length)),(12,some (unK 12 (co 0 E1.length)))]) (by rfl) ?_)|(refine wF 39 ?_;refine CallG.pz 37 (fun k=>[.int .i64 ((co 0 E1.length).getD k 0)]) 1 heq rfl rfl rfl rfl (fun _ _=>rfl) (fun k j x hk hx=>q_ (by rw[hlen];exact hk) hx) rfl ⟨VLe.refl _,VLe.refl _,trivial⟩ rfl rfl rfl ?_)|(refine wF 33 ?_;refine CallG.me [0,9,10,11] hp rfl rfl ⟨VLe.refl _,VLe.refl _,trivial⟩ ⟨⟨rfl,_,rfl,rfl,fun h=>h⟩,⟨rfl,_,rfl,rfl,fun h=>h⟩,⟨rfl,_,rfl,rfl,fun h=>h⟩,⟨rfl,_,rfl,rfl,fun h=>h⟩,trivial⟩ rfl rfl rfl ?_))|refine y3 ?_|refine y7 ?_ ?_|refine y4 ?_|(refine y9 ?_ ?_<;>intro h)|exact y5|fail)
  all_goals exact Fin.bool (.inl rfl) rfl rfl
set_option maxRecDepth 100000
theorem xC (l1:List Int) (h1:l1.length<=20000000000000) (l2:List Int) (h2:l2.length<=20000000000000):FC Tryz.prog 8 [.s (chF l1),.s (chF l2)] 0 [] (bV true) 0 []:=by
 obtain⟨p1,k1,g1⟩:=gI l1 h1;obtain⟨p2,k2,g2⟩:=gI l2 h2;obtain⟨E1,T1,z1,e1,L1,b1⟩:=oL p1 (fun x hx=>by have:=(k1.wf x hx).1;omega) (fun x hx=>(k1.wf x hx).2) E0 [] (by decide) mU nr;obtain⟨n1,t1⟩:=L1.ns Gx;have c1:=L1.tb b1 (by decide) tb_0;obtain⟨E,T,z2,e2,L2,b2⟩:=oL p2 (fun x hx=>by have:=(k2.wf x hx).1;omega) (fun x hx=>(k2.wf x hx).2) E1 T1 (by simp only[List.length_nil] at t1;omega) n1.reg n1.bit;obtain⟨n2,t2⟩:=L2.ns n1;exact xB l1 l2 p1 p2 g1 g2 py E1 E T1 T z1 e1 z2 e2 L1 L2 n1 n2 c1 (L2.tb b2 (by have:=n1.n3;omega) c1)
end Go.Proofs.YtegjgpldfgjoiaaGreatDoor
