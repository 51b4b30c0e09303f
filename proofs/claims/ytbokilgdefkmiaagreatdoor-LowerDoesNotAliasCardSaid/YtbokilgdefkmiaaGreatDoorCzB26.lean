import Derived.Test.YtbokilgdefkmiaaGreatDoorCzB25
set_option linter.unusedSimpArgs false
set_option linter.unusedVariables false
namespace Go.Proofs.YtbokilgdefkmiaaGreatDoor
open Go Ab
set_option maxRecDepth 100000
set_option maxHeartbeats 1000000
def lastBl:Fo→Fo
 | .nil=> .nil
 | .cons _ k .nil=>k
 | .cons _ _ n=>lastBl n
theorem args_last {c':Int}:∀ (ls:List Int) (t:Fo),(ls.all leafK)=true→t.V (ls.map (fun c=>(false,c))++[(true,c')])→∃ b,t.size=ls.length+1+(lastBl t).size∧∀ (p:List Nd) (i:Nat),t.At p i→(Fo.cons b (lastBl t) .nil).At p (i+ls.length)∧(Fo.cons b (lastBl t) .nil).V [(true,c')]
 |[],t,_,h=>by
  obtain⟨y,bl,n,rfl,h1,h2,h3⟩:=V_blk h;have:=V_nil h1;subst this;exact⟨y,by simp only[Fo.size,List.length_nil,lastBl];omega,fun p i ha=>⟨ha,h⟩⟩
 |c::ls,t,hl,h=>by
  simp only[List.all_cons,Bool.and_eq_true] at hl;obtain⟨y,n,rfl,h1,h2⟩:=V_leaf hl.1 h;obtain⟨b,g3,g1⟩:=args_last ls n hl.2 h1
  have hn:lastBl (.cons y .nil n)=lastBl n:=by
   cases n with
   |nil=>simp only[Fo.size] at g3;omega
   |cons a b c=>rfl
  rw[hn];refine⟨b,by simp only[Fo.size,List.length_cons];omega,fun p i ha=>?_⟩;have:=g1 p (i+1) (by simpa [Fo.size] using ha.2.2.2);rw[show i+(c::ls).length=i+1+ls.length by simp only[List.length_cons];omega];exact this
def nodeG (p:List Nd) (F:List (By×Nat)) (sc:Pth) (k:Fo) (i:Nat) (G:List (Nat×Nat)):List (Nat×Nat):=
 if (p.getD i dN).op=50∨(p.getD i dN).op=51 then (if numN p (i+1)<(p.getD (i+2) dN).kids then G++[(i,5)] else G)
 else if (p.getD i dN).op=16 then fieldG p F sc (lastBl k) i G
 else if (p.getD i dN).op=17 then (if resF p F 18 (candP sc (parseP (p.getD (i+1) dN).str).1)<0∨resF p F 18 (candP sc (parseP (p.getD (i+2) dN).str).1)<0 then G++[(i,6)] else G)
 else if (p.getD i dN).op=14 then metG p (lastBl k) i G
 else G
theorem node_c (p:List Nd) (hp:p.length≤2048) (hw:wfN p) (hI:wfI p) (hn:∀ j,j<p.length→NumAt p j) (nD:Nat) (T:List Pth) (hT:T.length=p.length) (hTl:∀ q∈T,q.segs.length≤1000000) (F:List (By×Nat)) (hF:∀ x∈F,x.2<p.length)
 (i:Nat) (x:Nd) (k:Fo) (sl:Bool×Int) (G:List (Nat×Nat)) (ha:(Fo.cons x k .nil).At p i) (hv:(Fo.cons x k .nil).V [sl]) (hG:G.length+4*2048≤1000000000):
 FC Tryz.prog 59 [.s (.ptr (some (0,0))),nI i] 8 (ndL p nD T F G) .any 10 (ndL' p nD T F (nodeG p F (T.getD i z0) k i G)):=by
 have hi:=At.lt ha;have hx:=At.get ha;have hsz:=At.size_le (Nat.le_of_lt hi) ha;simp only[Fo.size] at hsz
 have hse:(Tryz.prog.types[138]).size=3:=by kernel_rfl
 have hcat:plus 0 (times i (Tryz.prog.types[138]).size)=i*3:=by rw[hse,plus_eq,times_eq,Nat.zero_add]
 have hTg:(T.getD i z0).segs.length≤1000000:=hTl _ (by rw[List.getD_eq_getElem?_getD,List.getElem?_eq_getElem (by omega)];exact List.getElem_mem _)
 have hkk:∀ op,op≠4→x.op=op→k.V (slots (kindsB x.op x.kids).1):=by
  intro op h4 ho;obtain⟨b,c⟩:=sl;cases b
  ·exact hv.2.1
  ·exact absurd (ho.symm.trans hv.1.1) h4
 have k2:okH 8 (ndL p nD T F G)=true:=by unfold ndL dgB;generalize List.flatMap dgC _=cg;cases cg<;>rfl
 unfold nodeG;refine FC.walk (by kernel_rfl) Tryz.func59 rfl rfl ?_;by_cases h50:(p.getD i dN).op=50∨(p.getD i dN).op=51
 ·rw[if_pos h50]
  have hbl:∃ (K:Nat),(p.getD (i+2) dN).kids=(K:Int)∧i+2<p.length∧K≤2048:=by
   rcases h50 with h|h
   ·have h1:=hkk 50 (by decide) (hx▸h)
    rw[show x.op=50 from hx▸h] at h1;obtain⟨b,g1,g2⟩:=args_last [105] k rfl h1;have g3:=(g2 p (i+1) ha.2.2.1).1;have:=Fo.cnt_le (lastBl k);exact⟨(lastBl k).cnt,(congrArg Nd.kids (At.get g3)).trans g3.2.1,At.lt g3,by omega⟩
   ·have h1:=hkk 51 (by decide) (hx▸h)
    rw[show x.op=51 from hx▸h] at h1;obtain⟨b,g1,g2⟩:=args_last [105] k rfl h1;have g3:=(g2 p (i+1) ha.2.2.1).1;have:=Fo.cnt_le (lastBl k);exact⟨(lastBl k).cnt,(congrArg Nd.kids (At.get g3)).trans g3.2.1,At.lt g3,by omega⟩
  obtain⟨K,hK,hi2,hK2⟩:=hbl;have A1:=u64_in (z:=(p.getD (i+2) dN).kids) (by omega) (by omega)
  have hi1:i+1<p.length:=by omega
  by_cases hlt:numN p (i+1)<(p.getD (i+2) dN).kids
  ·rw[if_pos hlt]
   repeat'(first|exact y0|refine y1 ?_|refine y2 ?_ ?_|(refine y8 ?_ ?_<;>intro h<;>try(first|(exact absurd hlt (by assumption))|exact y6))|(refine wC ?_;first|(refine wF 58 ?_;refine CallG.mo [0,1,2,3,4,5,6,7] (report_c p nD G i 5 (by omega)) rfl (okH_op rfl rfl rfl) rfl rfl rfl ⟨VLe.refl _,VLe.refl _,VLe.refl _,trivial⟩ ⟨⟨rfl,_,rfl,rfl,fun h=>h⟩,FitP.op rfl rfl trivial⟩ rfl rfl (wr:=[(0,some (anB p 3 nD 9 (G.length+1))),(6,none),(9,dgB 9 (G++[(i,5)]))]) (by show [_,_,_]=_;rw[renO_op];rfl) ?_))|refine y3 ?_|refine y7 ?_ ?_|refine y4 ?_|(refine y9 ?_ ?_<;>intro h)|exact y5|fail)
   all_goals try first
    |omega
    |exact hi2
    |exact hi1
    |exact A1
   all_goals
    unfold ndL';rw[List.length_append,List.length_singleton];refine⟨.inr rfl,.tup [],[9,10],VLe.any _,EndOK.by rfl ?_ rfl ?_ rfl rfl⟩
    ·exact⟨rfl,rfl,rfl,MemP.op rfl trivial⟩
    ·((try unfold ndL');unfold dgB;generalize List.flatMap dgC _=cg;cases cg<;>rfl)
  ·rw[if_neg hlt]
   repeat'(first|exact y0|refine y1 ?_|refine y2 ?_ ?_|(refine y8 ?_ ?_<;>intro h<;>try(first|(exact absurd (by assumption) hlt)|exact y6))|refine y3 ?_|refine y7 ?_ ?_|refine y4 ?_|(refine y9 ?_ ?_<;>intro h)|exact y5|fail)
   all_goals try first
    |omega
    |exact hi2
    |exact hi1
    |exact A1
   all_goals
    refine⟨.inr rfl,.tup [],[6,7],VLe.any _,EndOK.move rfl ?_ rfl ?_ rfl ?_ ?_⟩
    ·exact⟨rfl,rfl,rfl,MemP.op rfl trivial⟩
    ·((try unfold ndL');unfold dgB;generalize List.flatMap dgC _=cg;cases cg<;>rfl)
    ·((try unfold ndL');unfold dgB;generalize List.flatMap dgC _=cg;cases cg<;>rfl)
    ·((try unfold ndL');unfold dgB;generalize List.flatMap dgC _=cg;cases cg<;>rfl)
 ·rw[if_neg h50]
  by_cases h16:(p.getD i dN).op=16
  ·rw[if_pos h16]
   have h1:=hkk 16 (by decide) (hx▸h16);rw[show x.op=16 from hx▸h16] at h1;obtain⟨b,g1,g2⟩:=args_last [110,105,105] k rfl h1;obtain⟨g3,g4⟩:=g2 p (i+1) ha.2.2.1;have hfi:=field_c p hp hw hI hn nD T hT hTl F hF i h16 b (lastBl k) G g3 g4 hG;generalize fieldG p F (T.getD i z0) (lastBl k) i G=G' at*
   repeat'(first|exact y0|refine y1 ?_|refine y2 ?_ ?_|(refine y8 ?_ ?_<;>intro h<;>try exact y6)|(refine wC ?_;first|(refine wF 90 ?_;refine CallG.mo [0,1,2,3,4,5,6,7] hfi rfl k2 rfl rfl rfl ⟨VLe.refl _,VLe.refl _,trivial⟩ ⟨⟨rfl,_,rfl,rfl,fun h=>h⟩,⟨rfl,_,rfl,rfl,fun h=>h⟩,⟨rfl,_,rfl,rfl,fun h=>h⟩,FitP.op rfl rfl trivial⟩ rfl rfl (wr:=[(0,some (anB p 3 nD 9 G'.length)),(1,some (scB T)),(5,some (mapB F)),(6,none),(9,dgB 9 G')]) (by show [_,_,_,_,_]=_;rw[renO_op];rfl) ?_))|refine y3 ?_|refine y7 ?_ ?_|refine y4 ?_|(refine y9 ?_ ?_<;>intro h)|exact y5|fail)
   all_goals try omega
   all_goals
    refine⟨.inr rfl,.tup [],[9,10],VLe.any _,EndOK.by rfl ?_ rfl ?_ rfl rfl⟩
    ·exact⟨rfl,rfl,rfl,MemP.op rfl trivial⟩
    ·((try unfold ndL');unfold dgB;generalize List.flatMap dgC _=cg;cases cg<;>rfl)
  ·rw[if_neg h16]
   by_cases h17:(p.getD i dN).op=17
   ·rw[if_pos h17]
    have h1:=hkk 17 (by decide) (hx▸h17);rw[show x.op=17 from hx▸h17] at h1;obtain⟨b,g1,g2⟩:=args_last [110,110,105,105] k rfl h1;simp only[List.length_cons,List.length_nil] at g1;have hpa:=pathAt_c p hw (i+1) (by omega);have hpb:=pathAt_c p hw (i+2) (by omega);have hra:=resolve_c p hp F hF (T.getD i z0) (parseP (p.getD (i+1) dN).str).1 hTg 18;have hrb:=resolve_c p hp F hF (T.getD i z0) (parseP (p.getD (i+2) dN).str).1 hTg 18;generalize resF p F 18 (candP (T.getD i z0) (parseP (p.getD (i+1) dN).str).1)=ra at*;generalize resF p F 18 (candP (T.getD i z0) (parseP (p.getD (i+2) dN).str).1)=rb at*;by_cases hlt:ra<0∨rb<0
    ·rw[if_pos hlt]
     repeat'(first|exact y0|refine y1 ?_|refine y2 ?_ ?_|(refine y8 ?_ ?_<;>intro h<;>try exact y6)|(refine wC ?_;first|(refine wF 92 ?_;refine CallG.mv [0] 0 hpa rfl rfl ⟨VLe.refl _,VLe.of_eq (congrArg nI (by push_cast;rfl)),trivial⟩ rfl rfl (fun φ w b=>BlAt.view 1 rfl) rfl ⟨⟨rfl,_,rfl,rfl,fun h=>h⟩,trivial⟩ rfl rfl rfl rfl ?_)|(refine wF 92 ?_;refine CallG.mv [0] 0 hpb rfl rfl ⟨VLe.refl _,VLe.of_eq (congrArg nI (by push_cast;rfl)),trivial⟩ rfl rfl (fun φ w b=>BlAt.view 1 rfl) rfl ⟨⟨rfl,_,rfl,rfl,fun h=>h⟩,trivial⟩ rfl rfl rfl rfl ?_)|(refine wF 91 ?_;refine CallG.mv [0,5] 0 hra rfl rfl ⟨VLe.refl _,VLe.refl _,VLe.refl _,VLe.refl _,trivial⟩ rfl rfl (fun φ w b=>viewR) rfl ⟨⟨rfl,_,rfl,rfl,fun h=>h⟩,⟨rfl,_,rfl,rfl,fun _=>rfl⟩,trivial⟩ rfl rfl rfl rfl ?_)|(refine wF 91 ?_;refine CallG.mv [0,5] 0 hrb rfl rfl ⟨VLe.refl _,VLe.refl _,VLe.refl _,VLe.refl _,trivial⟩ rfl rfl (fun φ w b=>viewR) rfl ⟨⟨rfl,_,rfl,rfl,fun h=>h⟩,⟨rfl,_,rfl,rfl,fun _=>rfl⟩,trivial⟩ rfl rfl rfl rfl ?_)|(refine wF 58 ?_;refine CallG.mo [0,1,2,3,4,5,6,7] (report_c p nD G i 6 (by omega)) rfl (okH_op rfl rfl rfl) rfl rfl rfl ⟨VLe.refl _,VLe.refl _,VLe.refl _,trivial⟩ ⟨⟨rfl,_,rfl,rfl,fun h=>h⟩,FitP.op rfl rfl trivial⟩ rfl rfl (wr:=[(0,some (anB p 3 nD 9 (G.length+1))),(6,none),(9,dgB 9 (G++[(i,6)]))]) (by show [_,_,_]=_;rw[renO_op];rfl) ?_))|refine RegX.ldS [.val (ptV (T.getD i z0))] rfl rfl ?_ rfl ?_|refine y3 ?_|refine y7 ?_ ?_|refine y4 ?_|(refine y9 ?_ ?_<;>intro h)|exact y5|fail)
     all_goals try first
      |omega
      |(rw[hcat,hse];exact ldAt_pts (by omega))
     all_goals
      unfold ndL';rw[List.length_append,List.length_singleton];refine⟨.inr rfl,.tup [],[9,10],VLe.any _,EndOK.by rfl ?_ rfl ?_ rfl rfl⟩
      ·exact⟨rfl,rfl,rfl,MemP.op rfl trivial⟩
      ·((try unfold ndL');unfold dgB;generalize List.flatMap dgC _=cg;cases cg<;>rfl)
    ·rw[if_neg hlt]
     repeat'(first|exact y0|refine y1 ?_|refine y2 ?_ ?_|(refine y8 ?_ ?_<;>intro h<;>try exact y6)|(refine wC ?_;first|(refine wF 92 ?_;refine CallG.mv [0] 0 hpa rfl rfl ⟨VLe.refl _,VLe.of_eq (congrArg nI (by push_cast;rfl)),trivial⟩ rfl rfl (fun φ w b=>BlAt.view 1 rfl) rfl ⟨⟨rfl,_,rfl,rfl,fun h=>h⟩,trivial⟩ rfl rfl rfl rfl ?_)|(refine wF 92 ?_;refine CallG.mv [0] 0 hpb rfl rfl ⟨VLe.refl _,VLe.of_eq (congrArg nI (by push_cast;rfl)),trivial⟩ rfl rfl (fun φ w b=>BlAt.view 1 rfl) rfl ⟨⟨rfl,_,rfl,rfl,fun h=>h⟩,trivial⟩ rfl rfl rfl rfl ?_)|(refine wF 91 ?_;refine CallG.mv [0,5] 0 hra rfl rfl ⟨VLe.refl _,VLe.refl _,VLe.refl _,VLe.refl _,trivial⟩ rfl rfl (fun φ w b=>viewR) rfl ⟨⟨rfl,_,rfl,rfl,fun h=>h⟩,⟨rfl,_,rfl,rfl,fun _=>rfl⟩,trivial⟩ rfl rfl rfl rfl ?_)|(refine wF 91 ?_;refine CallG.mv [0,5] 0 hrb rfl rfl ⟨VLe.refl _,VLe.refl _,VLe.refl _,VLe.refl _,trivial⟩ rfl rfl (fun φ w b=>viewR) rfl ⟨⟨rfl,_,rfl,rfl,fun h=>h⟩,⟨rfl,_,rfl,rfl,fun _=>rfl⟩,trivial⟩ rfl rfl rfl rfl ?_))|refine RegX.ldS [.val (ptV (T.getD i z0))] rfl rfl ?_ rfl ?_|refine y3 ?_|refine y7 ?_ ?_|refine y4 ?_|(refine y9 ?_ ?_<;>intro h)|exact y5|fail)
     all_goals try first
      |omega
      |(rw[hcat,hse];exact ldAt_pts (by omega))
     all_goals
      refine⟨.inr rfl,.tup [],[6,7],VLe.any _,EndOK.move rfl ?_ rfl ?_ rfl ?_ ?_⟩
      ·exact⟨rfl,rfl,rfl,MemP.op rfl trivial⟩
      ·((try unfold ndL');unfold dgB;generalize List.flatMap dgC _=cg;cases cg<;>rfl)
      ·((try unfold ndL');unfold dgB;generalize List.flatMap dgC _=cg;cases cg<;>rfl)
      ·((try unfold ndL');unfold dgB;generalize List.flatMap dgC _=cg;cases cg<;>rfl)
   ·rw[if_neg h17]
    by_cases h14:(p.getD i dN).op=14
    ·rw[if_pos h14]
     have h1:=hkk 14 (by decide) (hx▸h14);rw[show x.op=14 from hx▸h14] at h1;obtain⟨b,g1,g2⟩:=args_last [115,105,105,105] k rfl h1;obtain⟨g3,g4⟩:=g2 p (i+1) ha.2.2.1;simp only[List.length_cons,List.length_nil] at g1;have he:=At.ends1 ha;rw[show i+1+k.size=i+6+(lastBl k).size by omega] at he;have hme:=met_c p hp nD i b (lastBl k) G he g3 g4 hG;generalize metG p (lastBl k) i G=G' at*
     repeat'(first|exact y0|refine y1 ?_|refine y2 ?_ ?_|(refine y8 ?_ ?_<;>intro h<;>try exact y6)|(refine wC ?_;first|(refine wF 93 ?_;refine CallG.mo [0,1,2,3,4,5,6,7] hme rfl (okH_op rfl rfl rfl) rfl rfl rfl ⟨VLe.refl _,VLe.refl _,trivial⟩ ⟨⟨rfl,_,rfl,rfl,fun h=>h⟩,FitP.op rfl rfl trivial⟩ rfl rfl (wr:=[(0,some (anB p 3 nD 9 G'.length)),(6,none),(9,dgB 9 G')]) (by show [_,_,_]=_;rw[renO_op];rfl) ?_))|refine y3 ?_|refine y7 ?_ ?_|refine y4 ?_|(refine y9 ?_ ?_<;>intro h)|exact y5|fail)
     all_goals try omega
     all_goals
      refine⟨.inr rfl,.tup [],[9,10],VLe.any _,EndOK.by rfl ?_ rfl ?_ rfl rfl⟩
      ·exact⟨rfl,rfl,rfl,MemP.op rfl trivial⟩
      ·((try unfold ndL');unfold dgB;generalize List.flatMap dgC _=cg;cases cg<;>rfl)
    ·rw[if_neg h14]
     repeat'(first|exact y0|refine y1 ?_|refine y2 ?_ ?_|(refine y8 ?_ ?_<;>intro h<;>try exact y6)|refine y3 ?_|refine y7 ?_ ?_|refine y4 ?_|(refine y9 ?_ ?_<;>intro h)|exact y5|fail)
     all_goals try omega
     all_goals
      refine⟨.inr rfl,.tup [],[6,7],VLe.any _,EndOK.move rfl ?_ rfl ?_ rfl ?_ ?_⟩
      ·exact⟨rfl,rfl,rfl,MemP.op rfl trivial⟩
      ·((try unfold ndL');unfold dgB;generalize List.flatMap dgC _=cg;cases cg<;>rfl)
      ·((try unfold ndL');unfold dgB;generalize List.flatMap dgC _=cg;cases cg<;>rfl)
      ·((try unfold ndL');unfold dgB;generalize List.flatMap dgC _=cg;cases cg<;>rfl)
set_option maxRecDepth 100000
set_option maxHeartbeats 1000000
theorem SubF.cons {i:Nat} {bl bl':Bl} {L L':Hp} (hr:bl'.ro=bl.ro) (hb:∀ φ w b,BlAt φ w b bl→BlAt φ w b bl') (h:SubF L' L):SubF ((i,some bl')::L') ((i,some bl)::L):=by
 intro j c hj;rw[lk_cons] at hj ⊢;split at hj
 ·cases hj;rw[if_pos ‹_›];exact⟨bl,rfl,hr,hb⟩
 ·rw[if_neg ‹_›];exact h j c hj
theorem pts_rep (n:Nat):All2 SLe (rep n [S.bool false,S.int IntKind.i64 0,S.slc none 0 (some 0)]) ((List.replicate n z0).flatMap ptC):=by
 refine All2.of_get (by rw[rep_length,flat_len];simp) fun i a b ha hb=>?_
 have hi:i<n*3:=by
  rcases Nat.lt_or_ge i (rep n [S.bool false,S.int IntKind.i64 0,S.slc none 0 (some 0)]).length with h|h
  ·rwa [rep_length] at h
  ·rw[List.getElem?_eq_none h] at ha;cases ha
 rw[rep_get _ _ _ hi] at ha
 have hk:i/3<(List.replicate n z0).length:=by rw[List.length_replicate];omega
 have hg:(List.replicate n z0).getD (i/3) z0=z0:=by simp only[List.getD_eq_getElem?_getD,List.getElem?_replicate];split<;>rfl
 have hx:∀ x,(ptC z0)[i%3]? =some x→((List.replicate n z0).flatMap ptC)[i]? =some x:=fun x hx=>by
  have:=(pts_get (l:=List.replicate n z0) (k:=i/3) (j:=i%3) (x:=x) hk (by rw[hg];exact hx)).1
  rwa [show i/3*3+i%3=i by omega] at this
 have hm:i%3<3:=Nat.mod_lt _ (by decide);have ha:[S.bool false,S.int IntKind.i64 0,S.slc none 0 (some 0)][i%3]? =some a:=ha;generalize i%3=m at*
 match m,hm with
 |0,_=>rw[hx _ rfl] at hb;cases hb;cases ha;exact SLe.refl _
 |1,_=>rw[hx _ rfl] at hb;cases hb;cases ha;exact SLe.refl _
 |2,_=>rw[hx _ rfl] at hb;cases hb;cases ha;exact SLe.nil
def st0 (p:List Nd):St:=⟨List.replicate p.length z0,[],[],[]⟩
def anS (p:List Nd) (t:Fo):St:=declS false t 0 ⟨true,0,[]⟩ (st0 p)
theorem analyze_c (p:List Nd) (hp:p.length≤2048) (hw:wfN p) (t:Fo) (ha:t.At p 0) (hv:t.V (List.replicate t.cnt (false,68))) (hs:t.size=p.length):
 FC Tryz.prog 56 [nodes p] 0 [] (.s (.ptr (some (0,0)))) 8 (anL p (anS p t)):=by
 have hsz:(Tryz.prog.types[138]).size=3:=by kernel_rfl
 have hby:(Tryz.prog.types[138]).bytes=40:=by kernel_rfl
 generalize hU:anS p t=U;refine FC.walk (by kernel_rfl) Tryz.func56 rfl rfl ?_
 repeat'(first|exact y0|refine y1 ?_|refine y2 ?_ ?_|(refine y8 ?_ ?_<;>intro h<;>try exact y6)|refine y3 ?_|refine y7 ?_ ?_|refine y4 ?_|(refine y9 ?_ ?_<;>intro h)|exact y5|fail)
 refine RegX.opA [.idx p.length,.idx p.length] rfl rfl ?_ ?_
 ·rw[hby];exact⟨rfl,rfl,Nat.le_refl _,by omega,by omega⟩
 repeat'(first|exact y0|refine y1 ?_|refine y2 ?_ ?_|(refine y8 ?_ ?_<;>intro h<;>try exact y6)|refine RegX.mkm rfl ?_|refine y3 ?_|refine y7 ?_ ?_|refine y4 ?_|(refine y9 ?_ ?_<;>intro h)|exact y5|fail)
 refine Ex.subF (L':=[(0,some (scB (List.replicate p.length z0))),(1,some (mapB [])),(2,some {cells:=[.frz (fun k=>ndC (p.getD k dN)) 4 p.length,.slc (some (0,0)) p.length (some p.length),.row 3 4 0,.map (some 1),.row 5 6 0],ty:=109})]) ?_ ?_
 ·refine SubF.cons rfl ?_ (SubF.cons rfl ?_ (SubF.cons rfl ?_ (SubF.refl _)))
  ·exact fun φ w b h=>BlAt.cells (pts_rep p.length) h
  ·exact fun φ w b h=>h
  ·exact fun φ w b h=>BlAt.cells (bl:={cells:=[.frz (fun k=>ndC (p.getD k dN)) 4 p.length,.slc (some (0,0)) p.length (some p.length),.slc none 0 (some 0),.map (some 1),.slc none 0 (some 0)],ty:=109}) (cs:=[.frz (fun k=>ndC (p.getD k dN)) 4 p.length,.slc (some (0,0)) p.length (some p.length),.row 3 4 0,.map (some 1),.row 5 6 0]) ⟨SLe.refl _,SLe.refl _,SLe.nilrow,SLe.refl _,SLe.nilrow,trivial⟩ h
 refine Ex.canon [2,0,7,3,4,1,5,6] 21 [(0,nodes p),(3,.s (.ptr (some (0,0)))),(4,nI 0)] (anL p (st0 p)) rfl rfl ⟨VLe.refl _,VLe.refl _,VLe.refl _,trivial⟩ ⟨rfl,rfl,rfl,trivial⟩ rfl ?_
 refine Ex.inv (σ:=Fo×Nat×St) (fun q=>[(4,nI q.2.1)]) (fun q=>anL p q.2.2)
  (fun q=>q.1.At p q.2.1∧q.1.V (List.replicate q.1.cnt (false,68))∧q.2.1+q.1.size=p.length∧q.2.2.S.length=p.length∧q.2.2.D.length≤q.2.1∧q.2.2.G.length≤q.2.1∧declS false q.1 q.2.1 ⟨true,0,[]⟩ q.2.2=U) (fun q=>q.1.size) (t,0,st0 p) rfl (fun _=>rfl) ?_ ?_ ?_ ?_
 ·exact⟨ha,hv,by simp only;omega,by simp[st0],Nat.le_refl _,Nat.le_refl _,hU⟩
 ·exact⟨VLe.refl _,trivial⟩
 ·exact⟨rfl,rfl,rfl,trivial⟩
 ·rintro⟨t,j,s⟩ ⟨t1,t2,t3,t4,t5,t6,t7⟩
  simp only at t1 t2 t3 t4 t5 t6 t7 ⊢
  cases t with
  |nil=>
   simp only[Fo.size,Nat.add_zero] at t3;simp only[declS] at t7;subst t7
   repeat'(first|exact y0|refine y1 ?_|refine y2 ?_ ?_|(refine y8 ?_ ?_<;>intro h<;>try exact y6)|refine y3 ?_|refine y7 ?_ ?_|refine y4 ?_|(refine y9 ?_ ?_<;>intro h)|exact y5|fail)
   all_goals try omega
   refine⟨.inl rfl,_,[0,1,2,3,4,5,6,7],VLe.refl _,EndOK.by rfl ?_ rfl ?_ rfl rfl⟩
   ·exact⟨rfl,rfl,MemP.op rfl ⟨rfl,MemP.op rfl trivial⟩⟩
   ·(unfold anL dcB dgB;generalize List.flatMap dcC _=cd;generalize List.flatMap dgC _=cg;cases cd<;>cases cg<;>rfl)
  |cons x k n=>
   simp only[Fo.size] at t3
   have hr:declS false (.cons x k n) j ⟨true,0,[]⟩ s=declS false n (j+1+k.size) ⟨true,0,[]⟩ (declS false (.cons x k .nil) j ⟨true,0,[]⟩ s):=by simp only[declS]
   rw[hr] at t7;have hl:=declS_len false (.cons x k .nil) j ⟨true,0,[]⟩ s;simp only[Fo.size,Nat.add_zero] at hl;have hrec:=decl_all p hp hw (k.size+1) x k 68 j ⟨true,0,[]⟩ s (Nat.lt_succ_self _) (.inl rfl) ⟨t1.1,t1.2.1,t1.2.2.1,trivial⟩ ⟨t2.1,t2.2.1,trivial⟩ t4 t5 t6;generalize declS false (.cons x k .nil) j ⟨true,0,[]⟩ s=s' at*
   have k2:okH 8 (anL p s)=true:=by (unfold anL dcB dgB;generalize List.flatMap dcC _=cd;generalize List.flatMap dgC _=cg;cases cd<;>cases cg<;>rfl)
   repeat'(first|exact y0|refine y1 ?_|refine y2 ?_ ?_|(refine y8 ?_ ?_<;>intro h<;>try exact y6)|(refine wC ?_;first|(refine wF 87 ?_;refine CallG.mo [0,1,2,3,4,5,6,7] hrec rfl k2 rfl rfl rfl ⟨VLe.refl _,VLe.refl _,VLe.agg ⟨SLe.refl _,SLe.refl _,SLe.nil,trivial⟩,trivial⟩ ⟨⟨rfl,_,rfl,rfl,fun h=>h⟩,⟨rfl,_,rfl,rfl,fun h=>h⟩,FitP.op rfl rfl ⟨⟨rfl,_,rfl,rfl,fun h=>h⟩,FitP.op rfl rfl trivial⟩⟩ rfl rfl (wr:=[(0,some (anB p 8 s'.D.length 10 s'.G.length)),(1,some (scB s'.S)),(3,none),(6,none),(5,some (mapB s'.F)),(8,dcB 8 s'.D),(10,dgB 10 s'.G)]) (by show [_,_,_,_,_,_,_]=_;rw[renO_op,renO_op];rfl) ?_))|refine y3 ?_|refine y7 ?_ ?_|refine y4 ?_|(refine y9 ?_ ?_<;>intro h)|exact y5|fail)
   all_goals try omega
   refine LoopR.move (n,j+1+k.size,s') ⟨t1.2.2.2,t2.2.2,by simp only;omega,by simp only;omega,by simp only;omega,by simp only;omega,t7⟩ (by simp only[Fo.size];omega) [0,1,2,8,9,5,10,11] rfl ?_ ?_ ?_
   ·repeat' (first|exact VLe.refl _|exact VLe.any _|exact True.intro|refine⟨?_,?_⟩)
   ·exact⟨rfl,rfl,MemP.op rfl ⟨rfl,MemP.op rfl trivial⟩⟩
   ·(unfold anL dcB dgB;generalize List.flatMap dcC _=cd;generalize List.flatMap dgC _=cg;cases cd<;>cases cg<;>rfl)
set_option maxRecDepth 100000
set_option maxHeartbeats 1000000
def Fo.kid:Fo→Nat→Nat→Fo
 | .nil,_,_=> .nil
 | .cons _ k n,j,i=>if i=j then k else if i<j+1+k.size then k.kid (j+1) i else n.kid (j+1+k.size) i
theorem kid_at {p:List Nd}:∀ {t:Fo} {j:Nat} {cs:List (Bool×Int)} {i:Nat},t.At p j→t.V cs→j≤i→i<j+t.size→∃ sl,(Fo.cons (p.getD i dN) (t.kid j i) .nil).At p i∧(Fo.cons (p.getD i dN) (t.kid j i) .nil).V [sl]
 | .nil,j,cs,i,_,_,h1,h2=>by simp only[Fo.size] at h2;omega
 | .cons x k n,j,cs,i,ha,hv,h1,h2=>by
   simp only[Fo.size] at h2;have hx:=At.get ha
   obtain⟨sl,cs',rfl,hv1,hv2,hvk⟩:∃ sl cs',cs=sl::cs'∧(Fo.cons x k .nil).V [sl]∧n.V cs'∧∃ cs2,k.V cs2:=by
    match cs,hv with
    |(true,c)::cs',⟨h1,h2,h3⟩=>exact⟨_,_,rfl,⟨h1,h2,trivial⟩,h3,_,h2⟩
    |(false,c)::cs',⟨h1,h2,h3⟩=>exact⟨_,_,rfl,⟨h1,h2,trivial⟩,h3,_,h2⟩
   unfold Fo.kid;by_cases e:i=j
   ·subst e
    rw[if_pos rfl,hx];exact⟨sl,⟨ha.1,ha.2.1,ha.2.2.1,trivial⟩,hv1⟩
   ·rw[if_neg e]
    by_cases e2:i<j+1+k.size
    ·rw[if_pos e2]
     obtain⟨cs2,hk⟩:=hvk;exact kid_at ha.2.2.1 hk (by omega) (by omega)
    ·rw[if_neg e2]
     exact kid_at ha.2.2.2 hv2 (by omega) (by omega)
theorem num_at {p:List Nd} {i:Nat} {k:Fo} {sl:Bool×Int} (ha:(Fo.cons (p.getD i dN) k .nil).At p i) (hv:(Fo.cons (p.getD i dN) k .nil).V [sl]):NumAt p i:=by
 have hi:=At.lt ha;have hsz:=At.size_le (Nat.le_of_lt hi) ha;have hc:=Fo.cnt_le k;simp only[Fo.size] at hsz;obtain⟨b,c⟩:=sl
 have hk:∀ op,op≠4→(p.getD i dN).op=op→k.V (slots (kindsB op (p.getD i dN).kids).1):=by
  intro op h4 ho;cases b
  ·have:=hv.2.1;rwa [ho] at this
  ·exact absurd (ho.symm.trans hv.1.1) h4
 refine⟨hi,?_,?_,?_,?_,?_⟩
 ·rintro (e|e|e)
  ·have:k.cnt=5:=Fo.V_cnt (hk _ (by decide) e);omega
  ·have:k.cnt=4:=Fo.V_cnt (hk _ (by decide) e);omega
  ·have:k.cnt=5:=Fo.V_cnt (hk _ (by decide) e);omega
 ·rintro (e|e)
  ·have:k.cnt=4:=Fo.V_cnt (hk _ (by decide) e);omega
  ·have:k.cnt=4:=Fo.V_cnt (hk _ (by decide) e);omega
 ·rintro (e|e|e|e)
  ·have:k.cnt=2:=Fo.V_cnt (hk _ (by decide) e);omega
  ·have:k.cnt=2:=Fo.V_cnt (hk _ (by decide) e);omega
  ·have:k.cnt=2:=Fo.V_cnt (hk _ (by decide) e);omega
  ·have:k.cnt=2:=Fo.V_cnt (hk _ (by decide) e);omega
 ·rintro (e|e)
  ·have:k.cnt=1:=Fo.V_cnt (hk _ (by decide) e);omega
  ·have:k.cnt=2:=Fo.V_cnt (hk _ (by decide) e);omega
 ·intro e
  obtain⟨b',bl,g1,g2,g3⟩:=args_tail [105] k (i+1) rfl (hk _ (by decide) e) ha.2.2.1;have:=At.get g1;have hs:=At.size_le (Nat.le_of_lt (At.lt g1)) g1;have hb:=Fo.cnt_le bl;simp only[Fo.size] at hs;refine⟨bl.cnt,?_,?_⟩
  ·exact (congrArg Nd.kids this).trans g1.2.1
  ·simp only[List.length_cons,List.length_nil] at hs;omega
theorem joinP_len {b r:Pth}:(joinP b r).1.segs.length≤32:=by
 unfold joinP;split
 ·simp[z0]
 ·rename_i h
  split
  ·have hv:validP r=true:=by
    cases e:validP r with
    |true=>rfl
    |false=>exact absurd (.inr e) h
   unfold validP at hv;simp at hv;simp only;omega
  ·split
   ·simp[z0]
   ·simp;omega
def SOK (n:Nat) (s:St):Prop:=(∀ q∈s.S,q.segs.length≤32)∧(∀ x∈s.F,x.2<n)
theorem SOK.sc {n:Nat} {s:St} (h:SOK n s) (i:Nat) {sc:Pth} (hs:sc.segs.length≤32):SOK n (s.sc i sc):=
 ⟨fun q hq=>(List.mem_or_eq_of_mem_set hq).elim (h.1 q) (fun e=>e▸hs),h.2⟩
theorem SOK.rep {n:Nat} {s:St} (h:SOK n s) (i c:Nat):SOK n (s.rep i c):=h
theorem SOK.dec {n:Nat} {s:St} (h:SOK n s) {i:Nat} (hi:i<n) (path:By) (op:Int):SOK n (s.dec i path op):=by
 refine⟨h.1,fun x hx=>?_⟩;simp only[St.dec,decF] at hx;split at hx
 ·exact h.2 x hx
 ·rcases List.mem_append.1 hx with hx|hx
  ·exact h.2 x hx
  ·simp at hx;rw[hx];exact hi
theorem SOK.head {n:Nat} {s:St} (h:SOK n s) {i:Nat} (hi:i<n) (x:Nd) (nm:Pth) {sc:Pth} (hs:sc.segs.length≤32):SOK n (headS x nm i sc s).2∧(headS x nm i sc s).1.segs.length≤32:=by
 have hj:=joinP_len (b:=sc) (r:=nm);unfold headS;split
 ·split
  ·exact⟨h.sc i hs,hj⟩
  ·exact⟨(h.sc i hs).rep i 2,hs⟩
 ·split
  ·exact⟨h.sc i hs,hs⟩
  ·split
   ·refine⟨(h.sc i hs).dec hi _ _,?_⟩
    simp only;split
    ·exact hj
    ·exact hs
   ·exact⟨(h.sc i hs).rep i 2,hs⟩
theorem SOK.decl {p:List Nd}:∀ (m:Bool) (t:Fo) (i:Nat) (sc:Pth) (s:St),t.At p i→sc.segs.length≤32→SOK p.length s→SOK p.length (declS m t i sc s)
 |m,.nil,i,sc,s,_,_,h=>by cases m<;>exact h
 |true,.cons x k n,i,sc,s,ha,hs,h=>by
  simp only[declS];split
  ·exact SOK.decl false k (i+1) sc s ha.2.2.1 hs h
  ·exact SOK.decl true n _ sc s ha.2.2.2 hs h
 |false,.cons x k n,i,sc,s,ha,hs,h=>by
  simp only[declS];have hh:=h.head (At.lt ha) x (nameF k) hs;refine SOK.decl false n _ sc _ ha.2.2.2 hs ?_;split
  ·exact SOK.decl true k _ _ _ ha.2.2.1 hh.2 hh.1
  ·exact hh.1
theorem SOK.anS {p:List Nd} {t:Fo} (ha:t.At p 0):SOK p.length (anS p t):=
 SOK.decl false t 0 _ _ ha (by simp) ⟨fun q hq=>by rw[(List.mem_replicate.1 hq).2];simp[z0],fun x hx=>by cases hx⟩
theorem lastBl_size:∀ t:Fo,(lastBl t).size≤t.size
 | .nil=>Nat.le_refl _
 | .cons _ k .nil=>by simp only[lastBl,Fo.size];omega
 | .cons _ _ (.cons x k n)=>by
   have:=lastBl_size (.cons x k n);simp only[lastBl,Fo.size] at this ⊢;omega
theorem nodeG_len {p:List Nd} (hp:p.length≤2048) {F:List (By×Nat)} {sc:Pth} {i:Nat} {k:Fo} {sl:Bool×Int} {G:List (Nat×Nat)} (ha:(Fo.cons (p.getD i dN) k .nil).At p i) (hv:(Fo.cons (p.getD i dN) k .nil).V [sl]):
 (nodeG p F sc k i G).length≤G.length+3*2048:=by
 have hsz:=At.size_le (Nat.le_of_lt (At.lt ha)) ha;simp only[Fo.size] at hsz;have hl:=lastBl_size k;unfold nodeG;split
 ·split<;>simp
 ·split
  ·unfold fieldG
   split
   ·simp
   ·split
    ·simp
    ·refine Nat.le_trans (unitsG_len _ _ _ _ _ _ _) ?_
     omega
  ·split
   ·split<;>simp
   ·split
    ·unfold metG
     have h1:=argG_len p (numN p (i+2)) ((lastBl k).size+1) (i+5) G;have h2:=stmS_len false (lastBl k) (i+6) false true (argG p (numN p (i+2)) ((lastBl k).size+1) (i+5) G);omega
    ·simp
def rowG (p:List Nd) (F:List (By×Nat)) (T:List Pth) (t:Fo):Nat→Nat→List (Nat×Nat)→List (Nat×Nat)
 |0,_,G=>G
 |c+1,i,G=>rowG p F T t c (i+1) (nodeG p F (T.getD i z0) (t.kid 0 i) i (if oorB p i then G++[(i,4)] else G))
end Go.Proofs.YtbokilgdefkmiaaGreatDoor
