import Derived.Test.YtbokilgdefkmiaaGreatDoorCzB23
set_option linter.unusedSimpArgs false
set_option linter.unusedVariables false
namespace Go.Proofs.YtbokilgdefkmiaaGreatDoor
open Go Ab
set_option maxRecDepth 100000
set_option maxHeartbeats 1000000
abbrev nU (z:Int):V:=.s (.int .u64 z)
def regB (sp base len:Int):Bool:=decide (4≤sp∨sp=2∨len=0∨1048576<len∨9223372036854775808<base)||decide (sp=3∧256<base+len)
def acsB (w u:Int):Bool:=if w=1∨w=2∨w=4∨w=8 then decide (2<u) else true
theorem u64_in {z:Int} (h1:0≤z) (h2:z<18446744073709551616):IntKind.u64.wrap z=z:=by
 simp only[IntKind.wrap,IntKind.bits,IntKind.signed,Bool.false_and,Bool.false_eq_true,if_false];exact Int.emod_eq_of_lt h1 (by simpa using h2)
theorem badAccess_c (w u:Int):FC Tryz.prog 89 [nU w,nU u] 0 [] (bV (acsB w u)) 0 []:=by
 refine FC.walk (by kernel_rfl) Tryz.func89 rfl rfl ?_
 repeat'(first|exact y0|refine y1 ?_|refine y2 ?_ ?_|(refine y8 ?_ ?_<;>intro h<;>try exact y6)|refine Fin.bool (.inl rfl) rfl ?_|refine y3 ?_|refine y7 ?_ ?_|refine y4 ?_|(refine y9 ?_ ?_<;>intro h)|exact y5|fail)
 all_goals (unfold acsB;first|(rw[if_pos (by omega)];simp;omega)|(rw[if_neg (by omega)]))
theorem badRegion_c (sp base len:Int) (h0:0≤base) (h1:0≤len):FC Tryz.prog 88 [nU sp,nU base,nU len] 0 [] (bV (regB sp base len)) 0 []:=by
 refine FC.walk (by kernel_rfl) Tryz.func88 rfl rfl ?_
 repeat'(first|exact y0|refine y1 ?_|refine y2 ?_ ?_|(refine y8 ?_ ?_<;>intro h<;>try exact y6)|refine Fin.bool (.inl rfl) rfl ?_|refine y3 ?_|refine y7 ?_ ?_|refine y4 ?_|(refine y9 ?_ ?_<;>intro h)|exact y5|fail)
 all_goals first
  |exact u64_in (by omega) (by omega)
  |(unfold regB;simp;omega)
def numN (p:List Nd) (i:Nat):Int:=(p.getD i dN).int
def wfI (p:List Nd):Prop:=∀ x∈p,0≤x.int
theorem wfI_get {p:List Nd} (h:wfI p) (i:Nat):0≤(p.getD i dN).int:=by
 rw[List.getD_eq_getElem?_getD]
 cases e:p[i]? with
 |none=>simp[dN]
 |some x=>exact h x (List.mem_of_getElem? e)
def bigB (p:List Nd):Nat→Nat→Bool
 |_,0=>false
 |i,K+1=>decide (255<numN p i)||bigB p (i+1) K
def oorB (p:List Nd) (i:Nat):Bool:=
 if (p.getD i dN).op=12 then decide (5<numN p (i+2))||decide (65535<numN p (i+3))
 else if (p.getD i dN).op=14 then decide (7<numN p (i+2))||decide (1<numN p (i+3))||decide (15<numN p (i+4))
 else if (p.getD i dN).op=20 then decide (15<numN p (i+2))
 else if (p.getD i dN).op=15 then regB (numN p (i+2)) (numN p (i+3)) (numN p (i+4))
 else if (p.getD i dN).op=16 then acsB (numN p (i+2)) (numN p (i+3))
 else if (p.getD i dN).op=17 then acsB (numN p (i+3)) (numN p (i+4))
 else if (p.getD i dN).op=18 then decide (numN p (i+2)=0)||decide (256<numN p (i+2))
 else if (p.getD i dN).op=19 then decide (8388608<numN p (i+1))
 else if (p.getD i dN).op=50 then decide (255<numN p (i+1))||bigB p (i+3) (p.getD (i+2) dN).kids.toNat
 else if (p.getD i dN).op=51 then decide (64<numN p (i+1))
 else if (p.getD i dN).op=41 then decide (65535<numN p (i+2))
 else false
def NumAt (p:List Nd) (i:Nat):Prop:=i<p.length∧(((p.getD i dN).op=14∨(p.getD i dN).op=15∨(p.getD i dN).op=17)→i+4<p.length)∧(((p.getD i dN).op=12∨(p.getD i dN).op=16)→i+3<p.length)∧
 (((p.getD i dN).op=20∨(p.getD i dN).op=18∨(p.getD i dN).op=50∨(p.getD i dN).op=41)→i+2<p.length)∧(((p.getD i dN).op=19∨(p.getD i dN).op=51)→i+1<p.length)∧
 ((p.getD i dN).op=50→∃ K:Nat,(p.getD (i+2) dN).kids=(K:Int)∧i+3+K≤p.length)
theorem bigB_no {p:List Nd}:∀ {K i:Nat},(∀ j,j<K→ ¬255<numN p (i+j))→bigB p i K=false
 |0,_,_=>rfl
 |K+1,i,h=>by
  simp only[bigB];rw[decide_eq_false (show ¬255<numN p i from h 0 (Nat.succ_pos _)),bigB_no fun j hj=>by have:=h (j+1) (by omega);rwa [show i+(j+1)=i+1+j by omega] at this];rfl
theorem bigB_yes {p:List Nd}:∀ {K i j:Nat},j<K→255<numN p (i+j)→bigB p i K=true
 |K+1,i,0,_,h=>by simp only[bigB];rw[decide_eq_true (by simpa using h)];rfl
 |K+1,i,j+1,hj,h=>by
  simp only[bigB];rw[bigB_yes (K:=K) (i:=i+1) (j:=j) (by omega) (by rwa [show i+1+j=i+(j+1) by omega]),Bool.or_true]
theorem oor50 {p:List Nd} {i:Nat} (h:(p.getD i dN).op=50):oorB p i=(decide (255<numN p (i+1))||bigB p (i+3) (p.getD (i+2) dN).kids.toNat):=by
 unfold oorB
 repeat (first|rw[if_pos (by omega)]|rw[if_neg (by omega)])
theorem oor_c (p:List Nd) (hp:p.length≤2048) (hI:wfI p) (i:Nat) (hn:NumAt p i):FC Tryz.prog 57 [.s (.ptr (some (0,0))),nI i] 1 (anP p) (bV (oorB p i)) 1 (anP p):=by
 obtain⟨g0,g4,g3,g2,g1,h2⟩:=hn;have hr:=badRegion_c (numN p (i+2)) (numN p (i+3)) (numN p (i+4)) (wfI_get hI _) (wfI_get hI _);have ha:=badAccess_c (numN p (i+2)) (numN p (i+3));have hb:=badAccess_c (numN p (i+3)) (numN p (i+4));unfold numN at hr ha hb;refine FC.walk (by kernel_rfl) Tryz.func57 rfl rfl ?_;by_cases h50:(p.getD i dN).op=50
 ·obtain⟨K,hK,hle⟩:=h2 h50
  repeat'(first|exact y0|refine y1 ?_|refine y2 ?_ ?_|(refine y8 ?_ ?_<;>intro h<;>try exact y6)|refine⟨.inl rfl,_,[],VLe.of_eq (congrArg bV ?_),EndOK.by rfl ⟨rfl,trivial⟩ rfl rfl rfl rfl⟩|refine y3 ?_|refine y7 ?_ ?_|refine y4 ?_|(refine y9 ?_ ?_<;>intro h)|exact y5|fail)
  all_goals try omega
  ·unfold oorB numN
   repeat (first|rw[if_pos (by omega)]|rw[if_neg (by omega)])
   rw[decide_eq_true (by assumption)];rfl
  ·have hk:((i:Int)+3)+(p.getD (i+2) dN).kids=((i+3+K:Nat):Int):=by rw[hK];push_cast;rfl
   have hK2:i+3+K-(i+3)=K:=by omega
   refine RegX.chunkN 12 rfl rfl ?_ (RegX.eqv 169 (congrArg nI hk) rfl ?_)
   all_goals
    repeat'(first|exact y0|refine y1 ?_|refine y2 ?_ ?_|(refine y8 ?_ ?_<;>intro h<;>try exact y6)|refine y3 ?_|refine y7 ?_ ?_|refine y4 ?_|(refine y9 ?_ ?_<;>intro h)|exact y5|fail)
   all_goals try omega
   ·rw[hk];exact i64_in (by omega) (by omega)
   refine Ex.inv (σ:=Nat) (fun j=>[(172,nI j)]) (fun j=>anP p) (fun j=>j≤K∧∀ x,x<j→ ¬255<numN p (i+3+x)) (fun j=>K-j) 0 rfl (fun _=>rfl) ⟨Nat.zero_le _,fun x hx=>by omega⟩ ⟨VLe.refl _,trivial⟩ ⟨rfl,trivial⟩ ?_;rintro j ⟨j1,j2⟩
   repeat'(first|exact y0|refine y1 ?_|refine y2 ?_ ?_|(refine y8 ?_ ?_<;>intro h<;>try exact y6)|refine⟨.inl rfl,_,[],VLe.of_eq (congrArg bV ?_),EndOK.by rfl ⟨rfl,trivial⟩ rfl rfl rfl rfl⟩|refine LoopR.same (j+1) ⟨?_,?_⟩ ?_ rfl ⟨VLe.refl _,trivial⟩ ⟨rfl,trivial⟩ rfl rfl (by decide)|refine y3 ?_|refine y7 ?_ ?_|refine y4 ?_|(refine y9 ?_ ?_<;>intro h)|exact y5|fail)
   all_goals first
    |omega
    |(have q:j<i+3+K-(i+3):=Int.ofNat_lt.1 (by assumption)
      first
       |omega
       |(rw[oor50 h50,hK,Int.toNat_natCast,bigB_yes (j:=j) (by omega) (by assumption),Bool.or_true];done)
       |exact ext_all j2 (by assumption))
    |(have q: ¬j<i+3+K-(i+3):=fun e=>absurd (Int.ofNat_lt.2 e) (by assumption)
      rw[oor50 h50,hK,Int.toNat_natCast,bigB_no (fun x hx=>j2 x (by omega)),Bool.or_false];exact (decide_eq_false (by assumption)).symm)
 ·clear h2
  repeat'(first|exact y0|refine y1 ?_|refine y2 ?_ ?_|(refine y8 ?_ ?_<;>intro h<;>try exact y6)|(refine wC ?_;first|refine wF 88 (pu hr ?_)|refine wF 89 (pu ha ?_)|refine wF 89 (pu hb ?_))|refine⟨.inl rfl,_,[],VLe.of_eq (congrArg bV ?_),EndOK.by rfl ⟨rfl,trivial⟩ rfl rfl rfl rfl⟩|refine y3 ?_|refine y7 ?_ ?_|refine y4 ?_|(refine y9 ?_ ?_<;>intro h)|exact y5|fail)
  all_goals first
   |omega
   |(unfold oorB numN
     repeat (first|rw[if_pos (by omega)]|rw[if_neg (by omega)])
     first
      |done
      |rfl
      |(refine Eq.symm ?_;simp only[Bool.or_eq_true,decide_eq_true_eq,Nat.add_eq] at* <;>omega)
      |(refine Eq.symm ?_;simp only[Bool.or_eq_false_iff,decide_eq_false_iff_not,Nat.add_eq] at* <;>omega))
set_option maxRecDepth 100000
set_option maxHeartbeats 1000000
def resF (p:List Nd) (F:List (By×Nat)) (op:Int):List Pth→Int
 |[]=> -1
 |c::t=>match lkF F (fmtP c) with|some i=>if (p.getD i dN).op=op then (i:Int) else-1|none=>resF p F op t
theorem resF_cons_some {p:List Nd} {F:List (By×Nat)} {op:Int} {c:Pth} {t:List Pth} {i:Nat} (h:lkF F (fmtP c)=some i):resF p F op (c::t)=if (p.getD i dN).op=op then (i:Int) else-1:=by simp only[resF,h]
theorem resF_cons_none {p:List Nd} {F:List (By×Nat)} {op:Int} {c:Pth} {t:List Pth} (h:lkF F (fmtP c)=none):resF p F op (c::t)=resF p F op t:=by simp only[resF,h]
theorem lkF_mem:∀ {F:List (By×Nat)} {k:By} {i:Nat},lkF F k=some i→(k,i)∈F
 |x::t,k,i,h=>by
  simp only[lkF] at h;split at h
  ·rename_i e;cases h;rw[←e];exact .head _
  ·exact .tail _ (lkF_mem h)
theorem candL_root (bs:List By) (s0:By):∀ (k:Nat),∀ c∈candL bs s0 k,c.root=true
 |0,c,h=>by simp[candL] at h;rw[h]
 |k+1,c,h=>by
  unfold candL at h;split at h
  ·exact candL_root bs s0 k c h
  ·rcases List.mem_cons.1 h with rfl|h
   ·rfl
   ·exact candL_root bs s0 k c h
theorem candP_root {b r:Pth}:∀ c∈candP b r,c.root=true:=by
 intro c h;unfold candP at h;split at h
 ·simp at h
 ·split at h
  ·split at h
   ·rename_i hj;simp at h;rw[h];exact joinP_root hj
   ·simp at h
  ·exact candL_root _ _ _ c h
theorem candP_len (b r:Pth):(candP b r).length≤b.segs.length+1:=by
 unfold candP;split
 ·simp
 ·split
  ·split<;>simp
  ·exact candL_len _ _ _
abbrev anR (p:List Nd) (F:List (By×Nat)):Hp:=[(0,some {cells:=[.frz (fun k=>ndC (p.getD k dN)) 4 p.length,.unk,.unk,.map (some 1)],ty:=109,more:=true,ro:=true}),(1,some {mapB F with ro:=true})]
theorem resolve_c (p:List Nd) (hp:p.length≤2048) (F:List (By×Nat)) (hF:∀ x∈F,x.2<p.length) (sc nm:Pth) (hs:sc.segs.length≤1000000) (op:Int):
 FC Tryz.prog 91 [.s (.ptr (some (0,0))),ptV sc,ptV nm,nI op] 2 (anR p F) (nI (resF p F op (candP sc nm))) 2 (anR p F):=by
 have hcd:=cand_c sc nm;have hroot:= @candP_root sc nm;have hcl:=candP_len sc nm
 have hzr:∀ w,(zeroValue 3).run Tryz.prog w=.ok (.int .i64 0) w:=fun w=>by rw[Tryz.zeroValue3]
 generalize candP sc nm=cs at*;refine FC.walk (by kernel_rfl) Tryz.func91 rfl rfl ?_
 repeat'(first|exact y0|refine y1 ?_|refine y2 ?_ ?_|(refine y8 ?_ ?_<;>intro h<;>try exact y6)|(refine wC ?_;first|refine wF 143 (pu hcd ?_))|refine y3 ?_|refine y7 ?_ ?_|refine y4 ?_|(refine y9 ?_ ?_<;>intro h)|exact y5|fail)
 refine Ex.inv (σ:=Nat) (fun j=>[(17,nI j)]) (fun j=>anR p F) (fun j=>j≤cs.length∧resF p F op (cs.drop j)=resF p F op cs) (fun j=>cs.length-j) 0 rfl (fun _=>rfl) ⟨Nat.zero_le _,rfl⟩ ⟨VLe.refl _,trivial⟩ ⟨rfl,rfl,trivial⟩ ?_;rintro j ⟨j1,j2⟩;by_cases hj:j<cs.length
 ·rw[List.drop_eq_getElem_cons hj] at j2
  have hg:cs.getD j z0=cs[j]:=by simp[List.getD_eq_getElem?_getD,hj]
  have hrt:(cs.getD j z0).root=true:=by rw[hg];exact hroot _ (List.getElem_mem hj)
  have hf:=fmt_c (cs.getD j z0) hrt;rw[←hg] at j2
  cases hl:lkF F (fmtP (cs.getD j z0)) with
  |none=>
   rw[resF_cons_none hl] at j2
   repeat'(first|exact y0|refine y1 ?_|refine y2 ?_ ?_|(refine y8 ?_ ?_<;>intro h<;>try exact y6)|(refine wC ?_;first|refine wF 140 (pu hf ?_))|refine RegX.lkp none rfl rfl rfl rfl rfl hzr hl rfl ?_|refine y3 ?_|refine y7 ?_ ?_|refine y4 ?_|(refine y9 ?_ ?_<;>intro h)|exact y5|fail)
   all_goals try omega
   exact LoopR.same (j+1) ⟨hj,j2⟩ (by omega) rfl ⟨VLe.refl _,trivial⟩ ⟨rfl,rfl,trivial⟩ rfl rfl (by decide)
  |some i=>
   rw[resF_cons_some hl] at j2;have hi:i<p.length:=hF _ (lkF_mem hl)
   repeat'(first|exact y0|refine y1 ?_|refine y2 ?_ ?_|(refine y8 ?_ ?_<;>intro h<;>try exact y6)|(refine wC ?_;first|refine wF 140 (pu hf ?_))|refine RegX.lkp (some i) rfl rfl rfl rfl rfl hzr hl rfl ?_|refine y3 ?_|refine y7 ?_ ?_|refine y4 ?_|(refine y9 ?_ ?_<;>intro h)|exact y5|fail)
   all_goals try exact hi
   ·rw[←j2,if_pos ‹_›]
    exact⟨.inl rfl,_,[],VLe.refl _,EndOK.by rfl ⟨rfl,rfl,trivial⟩ rfl rfl rfl rfl⟩
   ·rw[←j2,if_neg ‹_›]
    exact⟨.inl rfl,_,[],VLe.refl _,EndOK.by rfl ⟨rfl,rfl,trivial⟩ rfl rfl rfl rfl⟩
 ·have hd:cs.drop j=[]:=by simp;omega
  rw[hd] at j2;simp only[resF] at j2;rw[←j2]
  repeat'(first|exact y0|refine y1 ?_|refine y2 ?_ ?_|(refine y8 ?_ ?_<;>intro h<;>try exact y6)|refine y3 ?_|refine y7 ?_ ?_|refine y4 ?_|(refine y9 ?_ ?_<;>intro h)|exact y5|fail)
  all_goals exact⟨.inl rfl,_,[],VLe.refl _,EndOK.by rfl ⟨rfl,rfl,trivial⟩ rfl rfl rfl rfl⟩
set_option maxRecDepth 100000
def stG1 (i:Nat) (r:Bool) (G:List (Nat×Nat)):List (Nat×Nat):=if r then G else G++[(i,10)]
def stG2 (op:Int) (i:Nat) (lp:Bool) (G:List (Nat×Nat)):List (Nat×Nat):=if (op=34∨op=35)∧lp=false then G++[(i,8)] else G
def stmS:Bool→Fo→Nat→Bool→Bool→List (Nat×Nat)→List (Nat×Nat)
 |_,.nil,_,_,_,G=>G
 |true,.cons x k n,i,lp,r,G=>stmS true n (i+1+k.size) lp r (if x.op=4 then stmS false k (i+1) lp true G else G)
 |false,.cons x k n,i,lp,r,G=>
  stmS false n (i+1+k.size) lp (r&& !decide (x.op=33∨x.op=34∨x.op=35))
   (if x.op=31 then stmS true k (i+1) lp true (stG2 x.op i lp (stG1 i r G)) else if x.op=32 then stmS true k (i+1) true true (stG2 x.op i lp (stG1 i r G)) else stG2 x.op i lp (stG1 i r G))
theorem stG_len (op:Int) (i:Nat) (lp r:Bool) (G:List (Nat×Nat)):(stG2 op i lp (stG1 i r G)).length≤G.length+2:=by
 unfold stG2 stG1
 split<;>split<;>simp<;>omega
theorem stG1_len (i:Nat) (r:Bool) (G:List (Nat×Nat)):(stG1 i r G).length≤G.length+1:=by
 unfold stG1
 split<;>simp
theorem stmS_len:∀ (m:Bool) (t:Fo) (i:Nat) (lp r:Bool) (G:List (Nat×Nat)),(stmS m t i lp r G).length≤G.length+2*t.size
 |true,.nil,_,_,_,_=>Nat.le_refl _
 |false,.nil,_,_,_,_=>Nat.le_refl _
 |true,.cons x k n,i,lp,r,G=>by
  simp only[stmS,Fo.size];have h1:=stmS_len true n (i+1+k.size) lp r (if x.op=4 then stmS false k (i+1) lp true G else G);split at h1
  ·have h2:=stmS_len false k (i+1) lp true G
   rw[if_pos ‹_›];omega
  ·rw[if_neg ‹_›];omega
 |false,.cons x k n,i,lp,r,G=>by
  simp only[stmS,Fo.size];have h0:=stG_len x.op i lp r G;generalize stG2 x.op i lp (stG1 i r G)=G2 at*;have h1:=stmS_len true k (i+1) lp true G2;have h2:=stmS_len true k (i+1) true true G2;have h3:=stmS_len false n (i+1+k.size) lp (r&& !decide (x.op=33∨x.op=34∨x.op=35)) (if x.op=31 then stmS true k (i+1) lp true G2 else if x.op=32 then stmS true k (i+1) true true G2 else G2)
  have h4:(if x.op=31 then stmS true k (i+1) lp true G2 else if x.op=32 then stmS true k (i+1) true true G2 else G2).length≤G2.length+2*k.size:=by
   split
   ·exact h1
   ·split
    ·exact h2
    ·omega
  omega
theorem expr_op {op:Int} (h:accB 101 op=true): ¬op=4:=by
 intro e;subst e;revert h;decide
theorem stm_kids {x:Nd} {k n:Fo} {cs:List (Bool×Int)} (hv:(Fo.cons x k n).V ((false,83)::cs)) (ho:x.op=31∨x.op=32):
 ∃ e ke rest,k=.cons e ke rest∧ ¬e.op=4∧rest.V (List.replicate rest.cnt (true,83))∧1≤rest.cnt∧(x.op=32→rest.cnt=1):=by
 obtain⟨_,hk,_⟩:=hv
 have key:∀ m:Nat,slots (kindsB x.op x.kids).1=(false,101)::List.replicate (m+1) (true,83)→(x.op=32→m=0)→∃ e ke rest,k=.cons e ke rest∧ ¬e.op=4∧rest.V (List.replicate rest.cnt (true,83))∧1≤rest.cnt∧(x.op=32→rest.cnt=1):=by
  intro m hs h0;rw[hs] at hk
  cases k with
  |nil=>exact hk.elim
  |cons e ke rest=>
   have hc:=Fo.V_cnt hk.2.2;rw[List.length_replicate] at hc;exact⟨e,ke,rest,rfl,expr_op hk.1.1,by rw[hc];exact hk.2.2,by omega,fun h=>by rw[hc,h0 h]⟩
 rcases ho with ho|ho
 ·by_cases h3:x.kids=3
  ·refine key 1 ?_ (fun h=>by omega)
   rw[ho,h3];rfl
  ·refine key 0 ?_ (fun _=>rfl)
   rw[ho];unfold kindsB;rw[if_neg (by decide),if_neg (by decide),if_neg (by simp[h3])];rfl
 ·refine key 0 ?_ (fun _=>rfl)
  rw[ho];rfl
set_option maxRecDepth 100000
set_option maxHeartbeats 1000000
abbrev stL (p:List Nd) (nD:Nat) (G:List (Nat×Nat)):Hp:=[(0,some (anB p 3 nD 6 G.length)),(6,dgB 6 G)]
abbrev stL' (p:List Nd) (nD:Nat) (G:List (Nat×Nat)):Hp:=[(0,some (anB p 3 nD 8 G.length)),(6,none),(8,dgB 8 G)]
def StmC (p:List Nd) (nD N:Nat):Prop:=∀ (b:Nd) (k:Fo) (i:Nat) (lp:Bool) (G:List (Nat×Nat)),k.size<N→(Fo.cons b k .nil).At p i→(Fo.cons b k .nil).V [(true,83)]→G.length+2*k.size≤1000000000→
 FC Tryz.prog 145 [.s (.ptr (some (0,0))),nI i,bV lp] 8 (stL p nD G) .any 10 (stL' p nD (stmS false k (i+1) lp true G))
theorem stm_c (p:List Nd) (hp:p.length≤2048) (nD N:Nat) (ih:StmC p nD N):StmC p nD (N+1):=by
 intro b k i lp G hN ha hv hG;have hi:=At.lt ha;have hx:=At.get ha;have hsz:=At.size_le (Nat.le_of_lt hi) ha;simp only[Fo.size] at hsz;have hcs:=starts_len k (i+1)
 have hkid:(p.getD i dN).kids=((k.starts (i+1)).length:Nat):=by rw[hx,hcs];exact ha.2.1
 have hcc:=Fo.cnt_le k;have hch:=children_c p hp i (i+1+k.size) hi (k.starts (i+1)) hkid (At.chain ha.2.2.1) (by omega);have hcs0:(k.starts (i+1)).drop 0=k.starts (i+1):=rfl;have hkA:=ha.2.2.1;have hkV:=hv.2.1;generalize hcsd:k.starts (i+1)=cs at hcs hkid hch;refine FC.walk (by kernel_rfl) Tryz.func145 rfl rfl ?_
 repeat'(first|refine Ex.canon [0,1,2,3,4,5,6,7,6,7] 68 [(0,.s (.ptr (some (0,0)))),(2,bV lp),(6,bV true),(13,.s (intsF cs)),(14,nI cs.length),(15,nI 0)] [(0,some (anB p 3 nD 8 (G).length)),(8,dgB 8 (G))] rfl rfl ⟨VLe.refl _,VLe.refl _,VLe.refl _,VLe.refl _,VLe.refl _,VLe.refl _,trivial⟩ ⟨rfl,MemP.op rfl trivial⟩ (by unfold dgB;generalize List.flatMap dgC _=cg;cases cg<;>rfl) (Ex.block ?_)|exact y0|refine y1 ?_|refine y2 ?_ ?_|(refine y8 ?_ ?_<;>intro h<;>try exact y6)|(refine wC ?_;first|(refine wF 142 ?_;refine CallG.mv [0] 0 hch rfl rfl ⟨VLe.refl _,VLe.refl _,trivial⟩ rfl rfl (fun φ w b=>BlAt.view 1 rfl) rfl ⟨⟨rfl,_,rfl,rfl,fun h=>h⟩,trivial⟩ rfl rfl rfl rfl ?_))|refine y3 ?_|refine y7 ?_ ?_|refine y4 ?_|(refine y9 ?_ ?_<;>intro h)|exact y5|fail)
 refine Ex.inv (σ:=Fo×Nat×Nat×Bool×List (Nat×Nat)) (fun q=>[(6,bV q.2.2.2.1),(15,nI q.2.2.1)]) (fun q=>[(0,some (anB p 3 nD 8 (q.2.2.2.2).length)),(8,dgB 8 (q.2.2.2.2))])
  (fun q=>q.1.At p q.2.1∧q.1.V (List.replicate q.1.cnt (false,83))∧(i+1≤q.2.1∧q.2.1+q.1.size=i+1+k.size)∧q.2.2.1+q.1.cnt=cs.length∧cs.drop q.2.2.1=q.1.starts q.2.1∧q.2.2.2.2.length+2*q.1.size≤1000000000∧stmS false q.1 q.2.1 lp q.2.2.2.1 q.2.2.2.2=stmS false k (i+1) lp true G) (fun q=>q.1.size) (k,i+1,0,true,G) rfl (fun _=>rfl) ?_ ?_ ?_ ?_
 ·refine⟨hkA,hkV,⟨by simp only;omega,by simp only⟩,by simp only;omega,by simp only[List.drop_zero,hcsd],hG,rfl⟩
 ·exact⟨VLe.refl _,VLe.refl _,trivial⟩
 ·exact⟨rfl,SubP.op rfl trivial⟩
 ·rintro⟨t,cur,idx,r,Gt⟩ ⟨t1,t2,⟨t0,t3⟩,t4,t5,t6,t7⟩
  simp only at t0 t1 t2 t3 t4 t5 t6 t7 ⊢
  cases t with
  |nil=>
   simp only[Fo.cnt,Nat.add_zero] at t4;simp only[stmS] at t7;rw[←t7]
   repeat'(first|exact y0|refine y1 ?_|refine y2 ?_ ?_|(refine y8 ?_ ?_<;>intro h<;>try exact y6)|refine y3 ?_|refine y7 ?_ ?_|refine y4 ?_|(refine y9 ?_ ?_<;>intro h)|exact y5|fail)
   refine⟨.inr rfl,.tup [],[8,9],VLe.any _,EndOK.by rfl ?_ rfl ?_ rfl rfl⟩
   ·exact⟨rfl,MemP.op rfl trivial⟩
   ·exact okH_op rfl rfl rfl
  |cons x ks n=>
   simp only[Fo.size] at t3 t6;simp only[Fo.cnt] at t4
   have hcur:cs.getD idx 0=cur:=by
    have:(cs.drop idx)[0]? =some cur:=by rw[t5];rfl
    rw[List.getElem?_drop,Nat.add_zero] at this;rw[List.getD_eq_getElem?_getD,this];rfl
   have hnext:cs.drop (idx+1)=n.starts (cur+1+ks.size):=by
    rw[←List.drop_drop,t5];rfl
   have hcl:=At.lt t1;have hcx:=At.get t1;rw[show stmS false (.cons x ks n) cur lp r Gt=stmS false n (cur+1+ks.size) lp (r&& !decide (x.op=33∨x.op=34∨x.op=35)) (if x.op=31 then stmS true ks (cur+1) lp true (stG2 x.op cur lp (stG1 cur r Gt)) else if x.op=32 then stmS true ks (cur+1) true true (stG2 x.op cur lp (stG1 cur r Gt)) else stG2 x.op cur lp (stG1 cur r Gt)) from rfl] at t7;have hG1:=stG1_len cur r Gt;have hG1d:stG1 cur r Gt=if r then Gt else Gt++[(cur,10)]:=rfl;have hG1d':stG1 cur r Gt=stG1 cur r Gt:=rfl;generalize hG1e:stG1 cur r Gt=G1 at hG1 hG1d t7;rw[hG1e] at hG1d'
   repeat'(first|refine Ex.cutC 20 68 10 [(0,.s (.ptr (some (0,0)))),(2,bV lp),(6,bV r),(8,nI cur),(13,.s (intsF cs)),(14,nI cs.length),(15,nI idx)] [(0,some (anB p 3 nD 8 (G1).length)),(8,dgB 8 (G1))] rfl ?_ ?_|refine Ex.cutBI 2 68 10 [(0,.s (.ptr (some (0,0)))),(2,bV lp),(6,bV (r&& !decide (x.op=33∨x.op=34∨x.op=35))),(13,.s (intsF cs)),(14,nI cs.length),(15,nI idx)] [(0,some (anB p 3 nD 8 (if x.op=31 then stmS true ks (cur+1) lp true (stG2 x.op cur lp G1) else if x.op=32 then stmS true ks (cur+1) true true (stG2 x.op cur lp G1) else stG2 x.op cur lp G1).length)),(8,dgB 8 (if x.op=31 then stmS true ks (cur+1) lp true (stG2 x.op cur lp G1) else if x.op=32 then stmS true ks (cur+1) true true (stG2 x.op cur lp G1) else stG2 x.op cur lp G1))] rfl ?_ ?_|exact y0|refine y1 ?_|refine y2 ?_ ?_|(refine y8 ?_ ?_<;>intro h<;>try exact y6)|refine y3 ?_|refine y7 ?_ ?_|refine y4 ?_|(refine y9 ?_ ?_<;>intro h)|exact y5|fail)
   all_goals try omega
   ·have hr:r=false:=by
     cases r
     ·rfl
     ·simp at*
    subst hr;subst hG1d
    repeat'(first|exact y0|refine y1 ?_|refine y2 ?_ ?_|(refine y8 ?_ ?_<;>intro h<;>try exact y6)|(refine wC ?_;first|(refine wF 58 ?_;refine CallG.mo [0,1,2,3,4,5,8,9] (report_c p nD Gt cur 10 (by omega)) rfl (okH_op rfl rfl rfl) rfl rfl rfl ⟨VLe.refl _,VLe.of_eq (congrArg nI (by rw[hcur])),VLe.refl _,trivial⟩ ⟨⟨rfl,_,rfl,rfl,fun h=>h⟩,FitP.op rfl rfl trivial⟩ rfl rfl (wr:=[(0,some (anB p 3 nD 10 (Gt.length+1))),(8,none),(10,dgB 10 (Gt++[(cur,10)]))]) (by show [_,_,_]=_;rw[renO_op];rfl) ?_))|refine y3 ?_|refine y7 ?_ ?_|refine y4 ?_|(refine y9 ?_ ?_<;>intro h)|exact y5|fail)
    rw[show (if false=true then Gt else Gt++[(cur,10)]).length=Gt.length+1 from by simp];refine CutR.at [0,1,2,3,4,5,6,7,10,11] rfl rfl ⟨VLe.refl _,VLe.refl _,VLe.refl _,VLe.of_eq (congrArg nI (by rw[hcur])),VLe.refl _,VLe.refl _,VLe.refl _,trivial⟩ ⟨rfl,MemP.op rfl trivial⟩ ?_
    (unfold dgB;generalize List.flatMap dgC _=cg;cases cg<;>rfl)
   ·have hr:r=true:=by
     cases r
     ·simp at*
     ·rfl
    subst hr;subst hG1d;refine CutR.at [0,1,2,3,4,5,6,7,8,9] rfl rfl ⟨VLe.refl _,VLe.refl _,VLe.refl _,VLe.of_eq (congrArg nI (by rw[hcur])),VLe.refl _,VLe.refl _,VLe.refl _,trivial⟩ ⟨rfl,MemP.op rfl trivial⟩ ?_
    (unfold dgB;generalize List.flatMap dgC _=cg;cases cg<;>rfl)
   ·have ho:x.op=33:=by rw[←hcx];assumption
    rw[if_neg (by omega),if_neg (by omega),decide_eq_true (by omega),Bool.not_true,Bool.and_false];unfold stG2;rw[if_neg (by omega)];refine CutR.at [0,1,2,3,4,5,6,7,8,9] rfl rfl ⟨VLe.refl _,VLe.refl _,VLe.refl _,VLe.refl _,VLe.refl _,VLe.refl _,trivial⟩ ⟨rfl,MemP.op rfl trivial⟩ ?_
    (unfold dgB;generalize List.flatMap dgC _=cg;cases cg<;>rfl)
   ·have ho:x.op=34:=by rw[←hcx];assumption
    have hlp:lp=false:=by
     cases lp
     ·rfl
     ·simp at*
    subst hlp;rw[if_neg (by omega),if_neg (by omega),decide_eq_true (by omega),Bool.not_true,Bool.and_false];unfold stG2;rw[if_pos ⟨by omega,rfl⟩,List.length_append,List.length_singleton]
    repeat'(first|exact y0|refine y1 ?_|refine y2 ?_ ?_|(refine y8 ?_ ?_<;>intro h<;>try exact y6)|(refine wC ?_;first|(refine wF 58 ?_;refine CallG.mo [0,1,2,3,4,5,8,9] (report_c p nD G1 cur 8 (by omega)) rfl (okH_op rfl rfl rfl) rfl rfl rfl ⟨VLe.refl _,VLe.refl _,VLe.refl _,trivial⟩ ⟨⟨rfl,_,rfl,rfl,fun h=>h⟩,FitP.op rfl rfl trivial⟩ rfl rfl (wr:=[(0,some (anB p 3 nD 10 (G1.length+1))),(8,none),(10,dgB 10 (G1++[(cur,8)]))]) (by show [_,_,_]=_;rw[renO_op];rfl) ?_))|refine y3 ?_|refine y7 ?_ ?_|refine y4 ?_|(refine y9 ?_ ?_<;>intro h)|exact y5|fail)
    refine CutR.at [0,1,2,3,4,5,6,7,10,11] rfl rfl ⟨VLe.refl _,VLe.refl _,VLe.refl _,VLe.refl _,VLe.refl _,VLe.refl _,trivial⟩ ⟨rfl,MemP.op rfl trivial⟩ ?_
    (unfold dgB;generalize List.flatMap dgC _=cg;cases cg<;>rfl)
   ·have ho:x.op=34:=by rw[←hcx];assumption
    have hlp:lp=true:=by
     cases lp
     ·simp at*
     ·rfl
    subst hlp;rw[if_neg (by omega),if_neg (by omega),decide_eq_true (by omega),Bool.not_true,Bool.and_false];unfold stG2;rw[if_neg (by simp)];refine CutR.at [0,1,2,3,4,5,6,7,8,9] rfl rfl ⟨VLe.refl _,VLe.refl _,VLe.refl _,VLe.refl _,VLe.refl _,VLe.refl _,trivial⟩ ⟨rfl,MemP.op rfl trivial⟩ ?_
    (unfold dgB;generalize List.flatMap dgC _=cg;cases cg<;>rfl)
   ·have ho:x.op=35:=by rw[←hcx];assumption
    have hlp:lp=false:=by
     cases lp
     ·rfl
     ·simp at*
    subst hlp;rw[if_neg (by omega),if_neg (by omega),decide_eq_true (by omega),Bool.not_true,Bool.and_false];unfold stG2;rw[if_pos ⟨by omega,rfl⟩,List.length_append,List.length_singleton]
    repeat'(first|exact y0|refine y1 ?_|refine y2 ?_ ?_|(refine y8 ?_ ?_<;>intro h<;>try exact y6)|(refine wC ?_;first|(refine wF 58 ?_;refine CallG.mo [0,1,2,3,4,5,8,9] (report_c p nD G1 cur 8 (by omega)) rfl (okH_op rfl rfl rfl) rfl rfl rfl ⟨VLe.refl _,VLe.refl _,VLe.refl _,trivial⟩ ⟨⟨rfl,_,rfl,rfl,fun h=>h⟩,FitP.op rfl rfl trivial⟩ rfl rfl (wr:=[(0,some (anB p 3 nD 10 (G1.length+1))),(8,none),(10,dgB 10 (G1++[(cur,8)]))]) (by show [_,_,_]=_;rw[renO_op];rfl) ?_))|refine y3 ?_|refine y7 ?_ ?_|refine y4 ?_|(refine y9 ?_ ?_<;>intro h)|exact y5|fail)
    refine CutR.at [0,1,2,3,4,5,6,7,10,11] rfl rfl ⟨VLe.refl _,VLe.refl _,VLe.refl _,VLe.refl _,VLe.refl _,VLe.refl _,trivial⟩ ⟨rfl,MemP.op rfl trivial⟩ ?_
    (unfold dgB;generalize List.flatMap dgC _=cg;cases cg<;>rfl)
   ·have ho:x.op=35:=by rw[←hcx];assumption
    have hlp:lp=true:=by
     cases lp
     ·simp at*
     ·rfl
    subst hlp;rw[if_neg (by omega),if_neg (by omega),decide_eq_true (by omega),Bool.not_true,Bool.and_false];unfold stG2;rw[if_neg (by simp)];refine CutR.at [0,1,2,3,4,5,6,7,8,9] rfl rfl ⟨VLe.refl _,VLe.refl _,VLe.refl _,VLe.refl _,VLe.refl _,VLe.refl _,trivial⟩ ⟨rfl,MemP.op rfl trivial⟩ ?_
    (unfold dgB;generalize List.flatMap dgC _=cg;cases cg<;>rfl)
   ·have ho:x.op=31:=by rw[←hcx];assumption
    obtain⟨e,ke,rest,rfl,he,hrV,hr1,hr32⟩:=stm_kids t2 (by omega);have hcs':=starts_len (.cons e ke rest) (cur+1)
    have hkid':(p.getD cur dN).kids=(((Fo.cons e ke rest).starts (cur+1)).length:Nat):=by rw[hcx,hcs'];exact t1.2.1
    have hcc':=Fo.cnt_le (.cons e ke rest);have hch':=children_c p hp cur (cur+1+(Fo.cons e ke rest).size) hcl _ hkid' (At.chain t1.2.2.1) (by omega);have hd1:((Fo.cons e ke rest).starts (cur+1)).drop 1=rest.starts (cur+1+1+ke.size):=rfl;have hrA:=t1.2.2.1.2.2.2;simp only[Fo.cnt,Fo.size] at hcs' hcc' t3 t6;generalize (Fo.cons e ke rest).starts (cur+1)=cs' at*
    have hst:∀ (m:Bool) (lq:Bool) (r:Bool) (G:List (Nat×Nat)),stmS true (.cons e ke rest) (cur+1) lq r G=stmS true rest (cur+1+1+ke.size) lq r G:=fun m lq r G=>by simp only[stmS,if_neg he]
    rw[hst true,hst true] at t7;rw[hst true,hst true]
    have hG2:stG2 x.op cur lp G1=G1:=by unfold stG2;rw[if_neg (by omega)]
    rw[hG2] at t7 ⊢;rw[decide_eq_false (by omega),Bool.not_false,Bool.and_true] at*;rw[if_pos ho] at t7 ⊢
    repeat'(first|exact y0|refine y1 ?_|refine y2 ?_ ?_|(refine y8 ?_ ?_<;>intro h<;>try exact y6)|(refine wC ?_;first|(refine wF 142 ?_;refine CallG.mv [0] 0 hch' rfl rfl ⟨VLe.refl _,VLe.refl _,trivial⟩ rfl rfl (fun φ w b=>BlAt.view 1 rfl) rfl ⟨⟨rfl,_,rfl,rfl,fun h=>h⟩,trivial⟩ rfl rfl rfl rfl ?_))|refine y3 ?_|refine y7 ?_ ?_|refine y4 ?_|(refine y9 ?_ ?_<;>intro h)|exact y5|fail)
    all_goals try omega
    refine Ex.inv (σ:=Fo×Nat×Nat×List (Nat×Nat)) (fun q=>[(49,nI q.2.2.1)]) (fun q=>[(0,some (anB p 3 nD 8 (q.2.2.2).length)),(8,dgB 8 (q.2.2.2))])
     (fun q=>q.1.At p q.2.1∧q.1.V (List.replicate q.1.cnt (true,83))∧(cur+1+1+ke.size≤q.2.1∧q.2.1+q.1.size=cur+1+(1+ke.size+rest.size))∧q.2.2.1+q.1.cnt=rest.cnt∧cs'.drop (1+q.2.2.1)=q.1.starts q.2.1∧q.2.2.2.length+2*q.1.size≤1000000000∧stmS true q.1 q.2.1 lp true q.2.2.2=stmS true rest (cur+1+1+ke.size) lp true G1) (fun q=>q.1.size) (rest,cur+1+1+ke.size,0,G1) rfl (fun _=>rfl) ?_ ?_ ?_ ?_
    ·exact⟨hrA,hrV,⟨Nat.le_refl _,by simp only;omega⟩,by simp only;omega,hd1,by simp only;omega,rfl⟩
    ·exact⟨VLe.refl _,trivial⟩
    ·exact⟨rfl,SubP.op rfl trivial⟩
    ·rintro⟨u,cu,iu,Gu⟩ ⟨u1,u2,⟨u0,u3⟩,u4,u5,u6,u7⟩
     simp only at u0 u1 u2 u3 u4 u5 u6 u7 ⊢
     cases u with
     |nil=>
      simp only[Fo.cnt,Nat.add_zero] at u4;simp only[stmS] at u7;rw[←u7]
      repeat'(first|exact y0|refine y1 ?_|refine y2 ?_ ?_|(refine y8 ?_ ?_<;>intro h<;>try exact y6)|refine y3 ?_|refine y7 ?_ ?_|refine y4 ?_|(refine y9 ?_ ?_<;>intro h)|exact y5|fail)
      all_goals try omega
      refine CutR.at [0,1,2,3,4,5,6,7,8,9] rfl rfl ⟨VLe.refl _,VLe.refl _,VLe.refl _,VLe.refl _,VLe.refl _,VLe.refl _,trivial⟩ ⟨rfl,MemP.op rfl trivial⟩ ?_
      (unfold dgB;generalize List.flatMap dgC _=cg;cases cg<;>rfl)
     |cons b' bl' n'=>
      simp only[Fo.size] at u3 u6;simp only[Fo.cnt] at u4
      have hbi:cs'.getD (1+iu) 0=cu:=by
       have:(cs'.drop (1+iu))[0]? =some cu:=by rw[u5];rfl
       rw[List.getElem?_drop,Nat.add_zero] at this;rw[List.getD_eq_getElem?_getD,this];rfl
      have hnx:cs'.drop (1+(iu+1))=n'.starts (cu+1+bl'.size):=by
       rw[show 1+(iu+1)=1+iu+1 by omega,←List.drop_drop,u5];rfl
      have hb4:b'.op=4:=u2.1.1;rw[show stmS true (.cons b' bl' n') cu lp true Gu=stmS true n' (cu+1+bl'.size) lp true (stmS false bl' (cu+1) lp true Gu) from by simp only[stmS,if_pos hb4]] at u7;have hrec:=ih b' bl' cu lp Gu (by omega) ⟨u1.1,u1.2.1,u1.2.2.1,trivial⟩ ⟨u2.1,u2.2.1,trivial⟩ (by omega);have hln:=stmS_len false bl' (cu+1) lp true Gu;generalize stmS false bl' (cu+1) lp true Gu=G3 at*
      repeat'(first|exact y0|refine y1 ?_|refine y2 ?_ ?_|(refine y8 ?_ ?_<;>intro h<;>try exact y6)|(refine wC ?_;first|(refine wF 145 ?_;refine CallG.mo [0,1,2,3,4,5,8,9] hrec rfl (okH_op rfl rfl rfl) rfl rfl rfl ⟨VLe.refl _,VLe.of_eq (congrArg nI (by rw[hbi])),VLe.refl _,trivial⟩ ⟨⟨rfl,_,rfl,rfl,fun h=>h⟩,FitP.op rfl rfl trivial⟩ rfl rfl (wr:=[(0,some (anB p 3 nD 10 G3.length)),(8,none),(10,dgB 10 G3)]) (by show [_,_,_]=_;rw[renO_op];rfl) ?_))|refine y3 ?_|refine y7 ?_ ?_|refine y4 ?_|(refine y9 ?_ ?_<;>intro h)|exact y5|fail)
      all_goals try omega
      refine LoopR.move (n',cu+1+bl'.size,iu+1,G3) ⟨u1.2.2.2,u2.2.2,⟨by simp only;omega,by simp only;omega⟩,by simp only;omega,hnx,by simp only;omega,u7⟩ (by simp only[Fo.size];omega) [0,1,2,3,4,5,6,7,10,11] rfl ?_ ?_ ?_
      ·repeat' (first|exact VLe.refl _|exact VLe.any _|exact True.intro|refine⟨?_,?_⟩)
      ·exact⟨rfl,MemP.op rfl trivial⟩
      ·(unfold dgB;generalize List.flatMap dgC _=cg;cases cg<;>rfl)
   ·have ho:x.op=32:=by rw[←hcx];assumption
    obtain⟨e,ke,rest,rfl,he,hrV,hr1,hr32⟩:=stm_kids t2 (by omega);have hcs':=starts_len (.cons e ke rest) (cur+1)
    have hkid':(p.getD cur dN).kids=(((Fo.cons e ke rest).starts (cur+1)).length:Nat):=by rw[hcx,hcs'];exact t1.2.1
    have hcc':=Fo.cnt_le (.cons e ke rest);have hch':=children_c p hp cur (cur+1+(Fo.cons e ke rest).size) hcl _ hkid' (At.chain t1.2.2.1) (by omega);have hd1:((Fo.cons e ke rest).starts (cur+1)).drop 1=rest.starts (cur+1+1+ke.size):=rfl;have hrA:=t1.2.2.1.2.2.2;simp only[Fo.cnt,Fo.size] at hcs' hcc' t3 t6;generalize (Fo.cons e ke rest).starts (cur+1)=cs' at*
    have hst:∀ (m:Bool) (lq:Bool) (r:Bool) (G:List (Nat×Nat)),stmS true (.cons e ke rest) (cur+1) lq r G=stmS true rest (cur+1+1+ke.size) lq r G:=fun m lq r G=>by simp only[stmS,if_neg he]
    rw[hst true,hst true] at t7;rw[hst true,hst true]
    have hG2:stG2 x.op cur lp G1=G1:=by unfold stG2;rw[if_neg (by omega)]
    rw[hG2] at t7 ⊢;rw[decide_eq_false (by omega),Bool.not_false,Bool.and_true] at*;rw[if_neg (by omega),if_pos ho] at t7 ⊢;have hc1:=hr32 ho
    cases rest with
    |nil=>exact absurd hr1 (by decide)
    |cons b' bl' n'=>
     cases n' with
     |cons b2 bl2 n2=>simp only[Fo.cnt] at hc1;omega
     |nil=>
      have hb4:b'.op=4:=hrV.1.1
      have hbi:cs'.getD 1 0=cur+1+1+ke.size:=by
       have:(cs'.drop 1)[0]? =some (cur+1+1+ke.size):=by rw[hd1];rfl
       rw[List.getElem?_drop,Nat.add_zero] at this;rw[List.getD_eq_getElem?_getD,this];rfl
      simp only[Fo.size,Nat.add_zero] at t3 t6;rw[show stmS true (.cons b' bl' .nil) (cur+1+1+ke.size) true true G1=stmS false bl' (cur+1+1+ke.size+1) true true G1 from by simp only[stmS,if_pos hb4]] at t7 ⊢;have hrec:=ih b' bl' (cur+1+1+ke.size) true G1 (by omega) hrA hrV (by omega);generalize stmS false bl' (cur+1+1+ke.size+1) true true G1=G3 at*;simp only[Fo.cnt] at hcs'
      repeat'(first|exact y0|refine y1 ?_|refine y2 ?_ ?_|(refine y8 ?_ ?_<;>intro h<;>try exact y6)|(refine wC ?_;first|(refine wF 142 ?_;refine CallG.mv [0] 0 hch' rfl rfl ⟨VLe.refl _,VLe.refl _,trivial⟩ rfl rfl (fun φ w b=>BlAt.view 1 rfl) rfl ⟨⟨rfl,_,rfl,rfl,fun h=>h⟩,trivial⟩ rfl rfl rfl rfl ?_)|(refine wF 145 ?_;refine CallG.mo [0,1,2,3,4,5,8,9] hrec rfl (okH_op rfl rfl rfl) rfl rfl rfl ⟨VLe.refl _,VLe.of_eq (congrArg nI (by rw[hbi])),VLe.refl _,trivial⟩ ⟨⟨rfl,_,rfl,rfl,fun h=>h⟩,FitP.op rfl rfl trivial⟩ rfl rfl (wr:=[(0,some (anB p 3 nD 10 G3.length)),(8,none),(10,dgB 10 G3)]) (by show [_,_,_]=_;rw[renO_op];rfl) ?_))|refine y3 ?_|refine y7 ?_ ?_|refine y4 ?_|(refine y9 ?_ ?_<;>intro h)|exact y5|fail)
      all_goals try omega
      refine CutR.at [0,1,2,3,4,5,6,7,10,11] rfl rfl ⟨VLe.refl _,VLe.refl _,VLe.refl _,VLe.refl _,VLe.refl _,VLe.refl _,trivial⟩ ⟨rfl,MemP.op rfl trivial⟩ ?_
      (unfold dgB;generalize List.flatMap dgC _=cg;cases cg<;>rfl)
   ·rw[←hcx] at t7 ⊢
    rw[if_neg (by omega),if_neg (by omega),decide_eq_false (by omega),Bool.not_false,Bool.and_true];unfold stG2;rw[if_neg (by omega)];refine CutR.at [0,1,2,3,4,5,6,7,8,9] rfl rfl ⟨VLe.refl _,VLe.refl _,VLe.refl _,VLe.refl _,VLe.refl _,VLe.refl _,trivial⟩ ⟨rfl,MemP.op rfl trivial⟩ ?_
    (unfold dgB;generalize List.flatMap dgC _=cg;cases cg<;>rfl)
   ·have hln:(if x.op=31 then stmS true ks (cur+1) lp true (stG2 x.op cur lp G1) else if x.op=32 then stmS true ks (cur+1) true true (stG2 x.op cur lp G1) else stG2 x.op cur lp G1).length+2*n.size≤1000000000:=by
     have h0:=stG_len x.op cur lp r Gt;rw[hG1e] at h0;have h1:=stmS_len true ks (cur+1) lp true (stG2 x.op cur lp G1);have h2:=stmS_len true ks (cur+1) true true (stG2 x.op cur lp G1);split
     ·omega
     ·split<;>omega
    generalize (if x.op=31 then stmS true ks (cur+1) lp true (stG2 x.op cur lp G1) else if x.op=32 then stmS true ks (cur+1) true true (stG2 x.op cur lp G1) else stG2 x.op cur lp G1)=G4 at*;refine LoopR.same (n,cur+1+ks.size,idx+1,(r&& !decide (x.op=33∨x.op=34∨x.op=35)),G4) ⟨t1.2.2.2,t2.2.2,⟨by simp only;omega,by simp only;omega⟩,by simp only;omega,hnext,hln,t7⟩ (by simp only[Fo.size];omega) rfl ⟨VLe.refl _,VLe.refl _,trivial⟩ ⟨rfl,SubP.op rfl trivial⟩ rfl ?_ (by decide);exact okH_op rfl rfl rfl
theorem stm_all (p:List Nd) (hp:p.length≤2048) (nD:Nat):∀ N,StmC p nD N
 |0=>fun b k i lp G h=>absurd h (Nat.not_lt_zero _)
 |N+1=>stm_c p hp nD N (stm_all p hp nD N)
set_option maxRecDepth 100000
set_option maxHeartbeats 1000000
theorem args_tail {p:List Nd} {c':Int}:∀ (ls:List Int) (t:Fo) (i:Nat),(ls.all leafK)=true→t.V (ls.map (fun c=>(false,c))++[(true,c')])→t.At p i→
 ∃ b bl,(Fo.cons b bl .nil).At p (i+ls.length)∧(Fo.cons b bl .nil).V [(true,c')]∧t.size=ls.length+1+bl.size
 |[],t,i,_,h,ha=>by
  obtain⟨y,bl,n,rfl,h1,h2,h3⟩:=V_blk h;have:=V_nil h1;subst this;exact⟨y,bl,ha,h,by simp only[Fo.size,List.length_nil];omega⟩
 |c::ls,t,i,hl,h,ha=>by
  simp only[List.all_cons,Bool.and_eq_true] at hl;obtain⟨y,n,rfl,h1,h2⟩:=V_leaf hl.1 h;obtain⟨b,bl,g1,g2,g3⟩:=args_tail ls n (i+1) hl.2 h1 (by simpa [Fo.size] using ha.2.2.2)
  have e:i+1+ls.length=i+(c::ls).length:=by simp only[List.length_cons];omega
  rw[e] at g1;exact⟨b,bl,g1,g2,by simp only[Fo.size,List.length_cons];omega⟩
def argG (p:List Nd) (lim:Int):Nat→Nat→List (Nat×Nat)→List (Nat×Nat)
 |0,_,G=>G
 |c+1,j,G=>argG p lim c (j+1) (if (p.getD j dN).op=7∧lim≤numN p j then G++[(j,9)] else G)
theorem argG_len (p:List Nd) (lim:Int):∀ (c j:Nat) (G:List (Nat×Nat)),(argG p lim c j G).length≤G.length+c
 |0,_,_=>Nat.le_refl _
 |c+1,j,G=>by
  simp only[argG];have:=argG_len p lim c (j+1) (if (p.getD j dN).op=7∧lim≤numN p j then G++[(j,9)] else G)
  have h2:(if (p.getD j dN).op=7∧lim≤numN p j then G++[(j,9)] else G).length≤G.length+1:=by split<;>simp
  omega
def metG (p:List Nd) (bl:Fo) (i:Nat) (G:List (Nat×Nat)):List (Nat×Nat):=stmS false bl (i+6) false true (argG p (numN p (i+2)) (bl.size+1) (i+5) G)
theorem met_c (p:List Nd) (hp:p.length≤2048) (nD:Nat) (i:Nat) (b:Nd) (bl:Fo) (G:List (Nat×Nat)) (hend0:Ends p (i+6+bl.size) 1 i) (ha:(Fo.cons b bl .nil).At p (i+5)) (hv:(Fo.cons b bl .nil).V [(true,83)]) (hG:G.length+4*2048≤1000000000):
 FC Tryz.prog 93 [.s (.ptr (some (0,0))),nI i] 8 (stL p nD G) .any 10 (stL' p nD (metG p bl i G)):=by
 have hi5:=At.lt ha;have hsz:=At.size_le (Nat.le_of_lt hi5) ha;simp only[Fo.size] at hsz;have hend:=end_c p hp i (i+6+bl.size) hend0;have hal:=argG_len p (numN p (i+2)) (bl.size+1) (i+5) G;have hst:=stm_all p hp nD (bl.size+1) b bl (i+5) false (argG p (numN p (i+2)) (bl.size+1) (i+5) G) (Nat.lt_succ_self _) ha hv (by omega);unfold metG;generalize hA:argG p (numN p (i+2)) (bl.size+1) (i+5) G=A at*;refine FC.walk (by kernel_rfl) Tryz.func93 rfl rfl ?_
 repeat'(first|refine Ex.canon [0,1,2,3,4,5,6,7,6,7] 52 [(0,.s (.ptr (some (0,0)))),(1,nI i),(4,nI (i+6+bl.size:Nat)),(5,nI (i+5:Nat))] [(0,some (anB p 3 nD 8 (G).length)),(8,dgB 8 (G))] rfl rfl ⟨VLe.refl _,VLe.refl _,VLe.refl _,VLe.of_eq (congrArg nI (by push_cast;rfl)),trivial⟩ ⟨rfl,MemP.op rfl trivial⟩ (by unfold dgB;generalize List.flatMap dgC _=cg;cases cg<;>rfl) (Ex.block ?_)|exact y0|refine y1 ?_|refine y2 ?_ ?_|(refine y8 ?_ ?_<;>intro h<;>try exact y6)|(refine wC ?_;first|(refine wF 141 ?_;refine CallG.mv [0] 0 hend rfl rfl ⟨VLe.refl _,VLe.refl _,trivial⟩ rfl rfl (fun φ w b=>BlAt.view 1 rfl) rfl ⟨⟨rfl,_,rfl,rfl,fun h=>h⟩,trivial⟩ rfl rfl rfl rfl ?_))|refine y3 ?_|refine y7 ?_ ?_|refine y4 ?_|(refine y9 ?_ ?_<;>intro h)|exact y5|fail)
 refine Ex.inv (σ:=Nat×Nat×List (Nat×Nat)) (fun q=>[(5,nI q.2.1)]) (fun q=>[(0,some (anB p 3 nD 8 (q.2.2).length)),(8,dgB 8 (q.2.2))])
  (fun q=>q.1+q.2.1=i+6+bl.size∧i+5≤q.2.1∧q.2.2.length+q.1≤G.length+(bl.size+1)∧argG p (numN p (i+2)) q.1 q.2.1 q.2.2=A) (fun q=>q.1) (bl.size+1,i+5,G) rfl (fun _=>rfl) ?_ ?_ ?_ ?_
 ·exact⟨by simp only;omega,Nat.le_refl _,Nat.le_refl _,hA⟩
 ·exact⟨VLe.refl _,trivial⟩
 ·exact⟨rfl,SubP.op rfl trivial⟩
 ·rintro⟨c,j,Gt⟩ ⟨t1,t2,t3,t4⟩
  simp only at t1 t2 t3 t4 ⊢
  cases c with
  |zero=>
   simp only[argG] at t4;subst t4
   repeat'(first|exact y0|refine y1 ?_|refine y2 ?_ ?_|(refine y8 ?_ ?_<;>intro h<;>try exact y6)|(refine wC ?_;first|(refine wF 145 ?_;refine CallG.mo [0,1,2,3,4,5,8,9] hst rfl (okH_op rfl rfl rfl) rfl rfl rfl ⟨VLe.refl _,VLe.of_eq (congrArg nI (by push_cast;rfl)),VLe.refl _,trivial⟩ ⟨⟨rfl,_,rfl,rfl,fun h=>h⟩,FitP.op rfl rfl trivial⟩ rfl rfl (wr:=[(0,some (anB p 3 nD 10 (stmS false bl (i+5+1) false true Gt).length)),(8,none),(10,dgB 10 (stmS false bl (i+5+1) false true Gt))]) (by show [_,_,_]=_;rw[renO_op];rfl) ?_))|refine y3 ?_|refine y7 ?_ ?_|refine y4 ?_|(refine y9 ?_ ?_<;>intro h)|exact y5|fail)
   all_goals try omega
   refine⟨.inr rfl,.tup [],[10,11],VLe.any _,EndOK.by rfl ?_ rfl ?_ rfl rfl⟩
   ·exact⟨rfl,MemP.op rfl trivial⟩
   ·exact okH_op rfl rfl rfl
  |succ c=>
   simp only[argG] at t4;by_cases hc:(p.getD j dN).op=7∧numN p (i+2)≤numN p j
   ·rw[if_pos hc] at t4
    obtain⟨hc1,hc2⟩:=hc;unfold numN at hc2
    repeat'(first|exact y0|refine y1 ?_|refine y2 ?_ ?_|(refine y8 ?_ ?_<;>intro h<;>try(first|(exact absurd hc2 (by assumption))|exact y6))|(refine wC ?_;first|(refine wF 58 ?_;refine CallG.mo [0,1,2,3,4,5,8,9] (report_c p nD Gt j 9 (by omega)) rfl (okH_op rfl rfl rfl) rfl rfl rfl ⟨VLe.refl _,VLe.refl _,VLe.refl _,trivial⟩ ⟨⟨rfl,_,rfl,rfl,fun h=>h⟩,FitP.op rfl rfl trivial⟩ rfl rfl (wr:=[(0,some (anB p 3 nD 10 (Gt.length+1))),(8,none),(10,dgB 10 (Gt++[(j,9)]))]) (by show [_,_,_]=_;rw[renO_op];rfl) ?_))|refine y3 ?_|refine y7 ?_ ?_|refine y4 ?_|(refine y9 ?_ ?_<;>intro h)|exact y5|fail)
    all_goals try omega
    refine LoopR.move (c,j+1,Gt++[(j,9)]) ⟨by simp only;omega,by simp only;omega,by simp only[List.length_append,List.length_singleton];omega,t4⟩ (by simp only;omega) [0,1,2,3,4,5,6,7,10,11] rfl ?_ ?_ ?_
    ·repeat' (first|exact VLe.refl _|exact VLe.any _|exact True.intro|exact VLe.of_eq (congrArg nI (by push_cast;rfl))|refine⟨?_,?_⟩)
    ·rw[List.length_append,List.length_singleton]
     exact⟨rfl,MemP.op rfl trivial⟩
    ·(unfold dgB;generalize List.flatMap dgC _=cg;cases cg<;>rfl)
   ·rw[if_neg hc] at t4
    unfold numN at hc
    repeat'(first|exact y0|refine y1 ?_|refine y2 ?_ ?_|(refine y8 ?_ ?_<;>intro h<;>try(first|(exfalso;exact hc ⟨by assumption,by assumption⟩)|exact y6))|refine y3 ?_|refine y7 ?_ ?_|refine y4 ?_|(refine y9 ?_ ?_<;>intro h)|exact y5|fail)
    all_goals try omega
    all_goals
     refine LoopR.same (c,j+1,Gt) ⟨by simp only;omega,by simp only;omega,by simp only;omega,t4⟩ (by simp only;omega) rfl ⟨VLe.of_eq (congrArg nI (by push_cast;rfl)),trivial⟩ ⟨rfl,SubP.op rfl trivial⟩ rfl ?_ (by decide);exact okH_op rfl rfl rfl
end Go.Proofs.YtbokilgdefkmiaaGreatDoor
