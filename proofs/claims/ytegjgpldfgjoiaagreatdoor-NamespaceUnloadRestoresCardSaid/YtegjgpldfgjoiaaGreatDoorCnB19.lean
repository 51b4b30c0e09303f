import Derived.Test.YtegjgpldfgjoiaaGreatDoorCnB18
import Derived.Test.YtegjgpldfgjoiaaGreatDoorCnB17
set_option linter.unusedSimpArgs false
set_option linter.unusedVariables false
namespace Go.Proofs.YtegjgpldfgjoiaaGreatDoor
open Go Ab
set_option maxRecDepth 100000
set_option maxHeartbeats 1000000
def ay:Fo->Fo
 | .nil=> .nil
 | .cons _ k .nil=>k
 | .cons _ _ n=>ay n
theorem aP {c':Int}:∀ (ls:List Int) (t:Fo),(ls.all mW)=true->t.V (ls.map (fun c=>(false,c))++[(true,c')])->∃ b,t.size=ls.length+1+(ay t).size/\∀ (p:List Nd) (i:Nat),t.At p i->(Fo.cons b (ay t) .nil).At p (i+ls.length)/\(Fo.cons b (ay t) .nil).V [(true,c')]
 |[],t,_,h=>by
  obtain⟨y,bl,n,rfl,h1,h2,h3⟩:=vE h;have:=sm h1;subst this;exact⟨y,by simp only[Fo.size,List.length_nil,ay];omega,fun p i ha=>⟨ha,h⟩⟩
 |c::ls,t,hl,h=>by
  simp only[List.all_cons,Bool.and_eq_true] at hl;obtain⟨y,n,rfl,h1,h2⟩:=pF hl.1 h;obtain⟨b,g3,g1⟩:=aP ls n hl.2 h1
  have hn:ay (.cons y .nil n)=ay n:=by
   cases n with
   |nil=>simp only[Fo.size] at g3;omega
   |cons a b c=>rfl
  rw[hn];refine⟨b,by simp only[Fo.size,List.length_cons];omega,fun p i ha=>?_⟩;have:=g1 p (i+1) (by simpa [Fo.size] using ha.2.2.2);rw[show i+(c::ls).length=i+1+ls.length by simp only[List.length_cons];omega];exact this
def eQ (p:List Nd) (F:List (By×Nat)) (sc:Pth) (k:Fo) (i:Nat) (G:List (Nat×Nat)):List (Nat×Nat):=
 if (p.getD i dN).op=50\/(p.getD i dN).op=51 then (if ai p (i+1)<(p.getD (i+2) dN).kids then G++[(i,5)] else G)
 else if (p.getD i dN).op=16 then gv p F sc (ay k) i G
 else if (p.getD i dN).op=17 then (if dt p F 18 (bK sc (aq (p.getD (i+1) dN).str).1)<0\/dt p F 18 (bK sc (aq (p.getD (i+2) dN).str).1)<0 then G++[(i,6)] else G)
 else if (p.getD i dN).op=14 then qu p (ay k) i G
 else G
theorem oE (p:List Nd) (hp:p.length<=2048) (hw:wfN p) (hI:wfI p) (hn:∀ j,j<p.length->gY p j) (nD:Nat) (T:List Pth) (hT:T.length=p.length) (hTl:∀ q∈T,q.segs.length<=1000000) (F:List (By×Nat)) (hF:∀ x∈F,x.2<p.length)
 (i:Nat) (x:Nd) (k:Fo) (sl:Bool×Int) (G:List (Nat×Nat)) (ha:(Fo.cons x k .nil).At p i) (hv:(Fo.cons x k .nil).V [sl]) (hG:G.length+4*2048<=1000000000):
 FC Tryz.prog 118 [.s (.ptr (some (0,0))),nI i] 8 (ndL p nD T F G) .any 10 (dw p nD T F (eQ p F (T.getD i z0) k i G)):=by
 have hi:=At.lt ha;have hx:=At.get ha;have hsz:=At.size_le (Nat.le_of_lt hi) ha;simp only[Fo.size] at hsz
 have hse:(Tryz.prog.types[99]).size=3:=by kernel_rfl
 have hcat:dv 0 (cj i (Tryz.prog.types[99]).size)=i*3:=by rw[hse,aV,aX,Nat.zero_add]
 have hTg:(T.getD i z0).segs.length<=1000000:=hTl _ (by rw[List.getD_eq_getElem?_getD,List.getElem?_eq_getElem (by omega)];exact List.getElem_mem _)
 have hkk:∀ op,op≠4->x.op=op->k.V (fG (aD x.op x.kids).1):=by
  intro op h4 ho;obtain⟨b,c⟩:=sl;cases b
  ·exact hv.2.1
  ·exact absurd (ho.symm.trans hv.1.1) h4
 have k2:okH 8 (ndL p nD T F G)=true:=by unfold ndL dgB;generalize List.flatMap dgC _=cg;cases cg<;>rfl
 unfold eQ;refine FC.walk (by kernel_rfl) Tryz.func118 rfl rfl ?_;by_cases h50:(p.getD i dN).op=50\/(p.getD i dN).op=51
 ·rw[if_pos h50]
  have hbl:∃ (K:Nat),(p.getD (i+2) dN).kids=(K:Int)/\i+2<p.length/\K<=2048:=by
   rcases h50 with h|h
   ·have h1:=hkk 50 (by decide) (hx▸h)
    rw[show x.op=50 from hx▸h] at h1;obtain⟨b,g1,g2⟩:=aP [105] k rfl h1;have g3:=(g2 p (i+1) ha.2.2.1).1;have:=Fo.cnt_le (ay k);exact⟨(ay k).cnt,(congrArg Nd.kids (At.get g3)).trans g3.2.1,At.lt g3,by omega⟩
   ·have h1:=hkk 51 (by decide) (hx▸h)
    rw[show x.op=51 from hx▸h] at h1;obtain⟨b,g1,g2⟩:=aP [105] k rfl h1;have g3:=(g2 p (i+1) ha.2.2.1).1;have:=Fo.cnt_le (ay k);exact⟨(ay k).cnt,(congrArg Nd.kids (At.get g3)).trans g3.2.1,At.lt g3,by omega⟩
  obtain⟨K,hK,hi2,hK2⟩:=hbl;have A1:=ac (z:=(p.getD (i+2) dN).kids) (by omega) (by omega)
  have hi1:i+1<p.length:=by omega
  by_cases hlt:ai p (i+1)<(p.getD (i+2) dN).kids
  ·rw[if_pos hlt]
   repeat'(first|exact y0|refine y1 ?_|refine y2 ?_ ?_|(refine y8 ?_ ?_<;>intro h<;>try(first|(exact absurd hlt (by assumption))|exact y6))|(refine wC ?_;first|(refine wF 117 ?_;refine CallG.mo [0,1,2,3,4,5,6,7] (bB p nD G i 5 (by omega)) rfl (aT rfl rfl rfl) rfl rfl rfl ⟨VLe.refl _,VLe.refl _,VLe.refl _,trivial⟩ ⟨⟨rfl,_,rfl,rfl,fun h=>h⟩,FitP.op rfl rfl trivial⟩ rfl rfl (wr:=[(0,some (anB p 3 nD 9 (G.length+1))),(6,none),(9,dgB 9 (G++[(i,5)]))]) (by show [_,_,_]=_;rw[ah];rfl) ?_))|refine y3 ?_|refine y7 ?_ ?_|refine y4 ?_|(refine y9 ?_ ?_<;>intro h)|exact y5|fail)
   all_goals try first
    |omega
    |exact hi2
    |exact hi1
    |exact A1
   all_goals
    unfold dw;rw[List.length_append,List.length_singleton];refine⟨.inr rfl,.tup [],[9,10],VLe.any _,EndOK.by rfl ?_ rfl ?_ rfl rfl⟩
    ·exact⟨rfl,rfl,rfl,MemP.op rfl trivial⟩
    ·((try unfold dw);unfold dgB;generalize List.flatMap dgC _=cg;cases cg<;>rfl)
  ·rw[if_neg hlt]
   repeat'(first|exact y0|refine y1 ?_|refine y2 ?_ ?_|(refine y8 ?_ ?_<;>intro h<;>try(first|(exact absurd (by assumption) hlt)|exact y6))|refine y3 ?_|refine y7 ?_ ?_|refine y4 ?_|(refine y9 ?_ ?_<;>intro h)|exact y5|fail)
   all_goals try first
    |omega
    |exact hi2
    |exact hi1
    |exact A1
   all_goals
    refine⟨.inr rfl,.tup [],[6,7],VLe.any _,EndOK.move rfl ?_ rfl ?_ rfl ?_ ?_⟩
    ·exact⟨rfl,rfl,rfl,MemP.op rfl trivial⟩
    ·((try unfold dw);unfold dgB;generalize List.flatMap dgC _=cg;cases cg<;>rfl)
    ·((try unfold dw);unfold dgB;generalize List.flatMap dgC _=cg;cases cg<;>rfl)
    ·((try unfold dw);unfold dgB;generalize List.flatMap dgC _=cg;cases cg<;>rfl)
 ·rw[if_neg h50]
  by_cases h16:(p.getD i dN).op=16
  ·rw[if_pos h16]
   have h1:=hkk 16 (by decide) (hx▸h16);rw[show x.op=16 from hx▸h16] at h1;obtain⟨b,g1,g2⟩:=aP [110,105,105] k rfl h1;obtain⟨g3,g4⟩:=g2 p (i+1) ha.2.2.1;have hfi:=Da p hp hw hI hn nD T hT hTl F hF i h16 b (ay k) G g3 g4 hG;generalize gv p F (T.getD i z0) (ay k) i G=G' at*
   repeat'(first|exact y0|refine y1 ?_|refine y2 ?_ ?_|(refine y8 ?_ ?_<;>intro h<;>try exact y6)|(refine wC ?_;first|(refine wF 176 ?_;refine CallG.mo [0,1,2,3,4,5,6,7] hfi rfl k2 rfl rfl rfl ⟨VLe.refl _,VLe.refl _,trivial⟩ ⟨⟨rfl,_,rfl,rfl,fun h=>h⟩,⟨rfl,_,rfl,rfl,fun h=>h⟩,⟨rfl,_,rfl,rfl,fun h=>h⟩,FitP.op rfl rfl trivial⟩ rfl rfl (wr:=[(0,some (anB p 3 nD 9 G'.length)),(1,some (scB T)),(5,some (a_ F)),(6,none),(9,dgB 9 G')]) (by show [_,_,_,_,_]=_;rw[ah];rfl) ?_))|refine y3 ?_|refine y7 ?_ ?_|refine y4 ?_|(refine y9 ?_ ?_<;>intro h)|exact y5|fail)
   all_goals try omega
   all_goals
    refine⟨.inr rfl,.tup [],[9,10],VLe.any _,EndOK.by rfl ?_ rfl ?_ rfl rfl⟩
    ·exact⟨rfl,rfl,rfl,MemP.op rfl trivial⟩
    ·((try unfold dw);unfold dgB;generalize List.flatMap dgC _=cg;cases cg<;>rfl)
  ·rw[if_neg h16]
   by_cases h17:(p.getD i dN).op=17
   ·rw[if_pos h17]
    have h1:=hkk 17 (by decide) (hx▸h17);rw[show x.op=17 from hx▸h17] at h1;obtain⟨b,g1,g2⟩:=aP [110,110,105,105] k rfl h1;simp only[List.length_cons,List.length_nil] at g1;have hpa:=iH p hw (i+1) (by omega);have hpb:=iH p hw (i+2) (by omega);have hra:=jq p hp F hF (T.getD i z0) (aq (p.getD (i+1) dN).str).1 hTg 18;have hrb:=jq p hp F hF (T.getD i z0) (aq (p.getD (i+2) dN).str).1 hTg 18;generalize dt p F 18 (bK (T.getD i z0) (aq (p.getD (i+1) dN).str).1)=ra at*;generalize dt p F 18 (bK (T.getD i z0) (aq (p.getD (i+2) dN).str).1)=rb at*;by_cases hlt:ra<0\/rb<0
    ·rw[if_pos hlt]
     repeat'(first|exact y0|refine y1 ?_|refine y2 ?_ ?_|(refine y8 ?_ ?_<;>intro h<;>try exact y6)|(refine wC ?_;first|(refine wF 178 ?_;refine CallG.mv [0] 0 hpa rfl rfl ⟨VLe.refl _,VLe.of_eq (congrArg nI (by push_cast;rfl)),trivial⟩ rfl rfl (fun φ w b=>BlAt.view 1 rfl) rfl ⟨⟨rfl,_,rfl,rfl,fun h=>h⟩,trivial⟩ rfl rfl rfl rfl ?_)|(refine wF 178 ?_;refine CallG.mv [0] 0 hpb rfl rfl ⟨VLe.refl _,VLe.of_eq (congrArg nI (by push_cast;rfl)),trivial⟩ rfl rfl (fun φ w b=>BlAt.view 1 rfl) rfl ⟨⟨rfl,_,rfl,rfl,fun h=>h⟩,trivial⟩ rfl rfl rfl rfl ?_)|(refine wF 177 ?_;refine CallG.mv [0,5] 0 hra rfl rfl ⟨VLe.refl _,VLe.refl _,VLe.refl _,VLe.refl _,trivial⟩ rfl rfl (fun φ w b=>jT) rfl ⟨⟨rfl,_,rfl,rfl,fun h=>h⟩,⟨rfl,_,rfl,rfl,fun _=>rfl⟩,trivial⟩ rfl rfl rfl rfl ?_)|(refine wF 177 ?_;refine CallG.mv [0,5] 0 hrb rfl rfl ⟨VLe.refl _,VLe.refl _,VLe.refl _,VLe.refl _,trivial⟩ rfl rfl (fun φ w b=>jT) rfl ⟨⟨rfl,_,rfl,rfl,fun h=>h⟩,⟨rfl,_,rfl,rfl,fun _=>rfl⟩,trivial⟩ rfl rfl rfl rfl ?_)|(refine wF 117 ?_;refine CallG.mo [0,1,2,3,4,5,6,7] (bB p nD G i 6 (by omega)) rfl (aT rfl rfl rfl) rfl rfl rfl ⟨VLe.refl _,VLe.refl _,VLe.refl _,trivial⟩ ⟨⟨rfl,_,rfl,rfl,fun h=>h⟩,FitP.op rfl rfl trivial⟩ rfl rfl (wr:=[(0,some (anB p 3 nD 9 (G.length+1))),(6,none),(9,dgB 9 (G++[(i,6)]))]) (by show [_,_,_]=_;rw[ah];rfl) ?_))|refine RegX.ldS [.val (ptV (T.getD i z0))] rfl rfl ?_ rfl ?_|refine y3 ?_|refine y7 ?_ ?_|refine y4 ?_|(refine y9 ?_ ?_<;>intro h)|exact y5|fail)
     all_goals try first
      |omega
      |(rw[hcat,hse];exact eT (by omega))
     all_goals
      unfold dw;rw[List.length_append,List.length_singleton];refine⟨.inr rfl,.tup [],[9,10],VLe.any _,EndOK.by rfl ?_ rfl ?_ rfl rfl⟩
      ·exact⟨rfl,rfl,rfl,MemP.op rfl trivial⟩
      ·((try unfold dw);unfold dgB;generalize List.flatMap dgC _=cg;cases cg<;>rfl)
    ·rw[if_neg hlt]
     repeat'(first|exact y0|refine y1 ?_|refine y2 ?_ ?_|(refine y8 ?_ ?_<;>intro h<;>try exact y6)|(refine wC ?_;first|(refine wF 178 ?_;refine CallG.mv [0] 0 hpa rfl rfl ⟨VLe.refl _,VLe.of_eq (congrArg nI (by push_cast;rfl)),trivial⟩ rfl rfl (fun φ w b=>BlAt.view 1 rfl) rfl ⟨⟨rfl,_,rfl,rfl,fun h=>h⟩,trivial⟩ rfl rfl rfl rfl ?_)|(refine wF 178 ?_;refine CallG.mv [0] 0 hpb rfl rfl ⟨VLe.refl _,VLe.of_eq (congrArg nI (by push_cast;rfl)),trivial⟩ rfl rfl (fun φ w b=>BlAt.view 1 rfl) rfl ⟨⟨rfl,_,rfl,rfl,fun h=>h⟩,trivial⟩ rfl rfl rfl rfl ?_)|(refine wF 177 ?_;refine CallG.mv [0,5] 0 hra rfl rfl ⟨VLe.refl _,VLe.refl _,VLe.refl _,VLe.refl _,trivial⟩ rfl rfl (fun φ w b=>jT) rfl ⟨⟨rfl,_,rfl,rfl,fun h=>h⟩,⟨rfl,_,rfl,rfl,fun _=>rfl⟩,trivial⟩ rfl rfl rfl rfl ?_)|(refine wF 177 ?_;refine CallG.mv [0,5] 0 hrb rfl rfl ⟨VLe.refl _,VLe.refl _,VLe.refl _,VLe.refl _,trivial⟩ rfl rfl (fun φ w b=>jT) rfl ⟨⟨rfl,_,rfl,rfl,fun h=>h⟩,⟨rfl,_,rfl,rfl,fun _=>rfl⟩,trivial⟩ rfl rfl rfl rfl ?_))|refine RegX.ldS [.val (ptV (T.getD i z0))] rfl rfl ?_ rfl ?_|refine y3 ?_|refine y7 ?_ ?_|refine y4 ?_|(refine y9 ?_ ?_<;>intro h)|exact y5|fail)
     all_goals try first
      |omega
      |(rw[hcat,hse];exact eT (by omega))
     all_goals
      refine⟨.inr rfl,.tup [],[6,7],VLe.any _,EndOK.move rfl ?_ rfl ?_ rfl ?_ ?_⟩
      ·exact⟨rfl,rfl,rfl,MemP.op rfl trivial⟩
      ·((try unfold dw);unfold dgB;generalize List.flatMap dgC _=cg;cases cg<;>rfl)
      ·((try unfold dw);unfold dgB;generalize List.flatMap dgC _=cg;cases cg<;>rfl)
      ·((try unfold dw);unfold dgB;generalize List.flatMap dgC _=cg;cases cg<;>rfl)
   ·rw[if_neg h17]
    by_cases h14:(p.getD i dN).op=14
    ·rw[if_pos h14]
     have h1:=hkk 14 (by decide) (hx▸h14);rw[show x.op=14 from hx▸h14] at h1;obtain⟨b,g1,g2⟩:=aP [115,105,105,105] k rfl h1;obtain⟨g3,g4⟩:=g2 p (i+1) ha.2.2.1;simp only[List.length_cons,List.length_nil] at g1;have he:=At.ends1 ha;rw[show i+1+k.size=i+6+(ay k).size by omega] at he;have hme:=GA p hp nD i b (ay k) G he g3 g4 hG;generalize qu p (ay k) i G=G' at*
     repeat'(first|exact y0|refine y1 ?_|refine y2 ?_ ?_|(refine y8 ?_ ?_<;>intro h<;>try exact y6)|(refine wC ?_;first|(refine wF 179 ?_;refine CallG.mo [0,1,2,3,4,5,6,7] hme rfl (aT rfl rfl rfl) rfl rfl rfl ⟨VLe.refl _,VLe.refl _,trivial⟩ ⟨⟨rfl,_,rfl,rfl,fun h=>h⟩,FitP.op rfl rfl trivial⟩ rfl rfl (wr:=[(0,some (anB p 3 nD 9 G'.length)),(6,none),(9,dgB 9 G')]) (by show [_,_,_]=_;rw[ah];rfl) ?_))|refine y3 ?_|refine y7 ?_ ?_|refine y4 ?_|(refine y9 ?_ ?_<;>intro h)|exact y5|fail)
     all_goals try omega
     all_goals
      refine⟨.inr rfl,.tup [],[9,10],VLe.any _,EndOK.by rfl ?_ rfl ?_ rfl rfl⟩
      ·exact⟨rfl,rfl,rfl,MemP.op rfl trivial⟩
      ·((try unfold dw);unfold dgB;generalize List.flatMap dgC _=cg;cases cg<;>rfl)
    ·rw[if_neg h14]
     repeat'(first|exact y0|refine y1 ?_|refine y2 ?_ ?_|(refine y8 ?_ ?_<;>intro h<;>try exact y6)|refine y3 ?_|refine y7 ?_ ?_|refine y4 ?_|(refine y9 ?_ ?_<;>intro h)|exact y5|fail)
     all_goals try omega
     all_goals
      refine⟨.inr rfl,.tup [],[6,7],VLe.any _,EndOK.move rfl ?_ rfl ?_ rfl ?_ ?_⟩
      ·exact⟨rfl,rfl,rfl,MemP.op rfl trivial⟩
      ·((try unfold dw);unfold dgB;generalize List.flatMap dgC _=cg;cases cg<;>rfl)
      ·((try unfold dw);unfold dgB;generalize List.flatMap dgC _=cg;cases cg<;>rfl)
      ·((try unfold dw);unfold dgB;generalize List.flatMap dgC _=cg;cases cg<;>rfl)
set_option maxRecDepth 100000
set_option maxHeartbeats 2000000
abbrev DR:=List Ent×List Fd×Int
def lu (i:Nat) (sc:Pth) (fs:List Fd) (R:List Ent×List Int×Int×Int):DR:=(R.1,rG i sc fs R,R.2.2.2)
def ko (p:List Nd) (num:Int) (x:Nd) (k:Fo) (i:Nat) (sc:Pth) (E:List Ent) (fs:List Fd) (rec:Pth->List Ent->List Fd->DR):DR:=
 if x.op=10 then (if (dB p (i+1) sc).2=false then (E,fs,6) else if (gX E (dB p (i+1) sc).1).2=false then (E,fs,6) else rec (dB p (i+1) sc).1 E fs)
 else if x.op=16 then lu i sc fs (im p num sc (ai p (i+4-2)) (ai p (i+4-1)) (ay k) (i+4+1) E [] 0)
 else if x.op=17 then lu i sc fs (im p num sc (ai p (i+5-2)) (ai p (i+5-1)) (ay k) (i+5+1) E [] 0)
 else if (cr p num E i sc).2.2.2≠0 then ((cr p num E i sc).1,fs,(cr p num E i sc).2.2.2)
 else if x.op=11\/x.op=12 then rec (cr p num E i sc).2.2.1 (cr p num E i sc).1 fs
 else ((cr p num E i sc).1,fs,0)
def aW (p:List Nd) (num:Int):Bool->Fo->Nat->Pth->List Ent->List Fd->DR
 |_,.nil,_,_,E,fs=>(E,fs,0)
 |true,.cons x k n,i,sc,E,fs=>if x.op=4 then aW p num false k (i+1) sc E fs else aW p num true n (i+1+k.size) sc E fs
 |false,.cons x k n,i,sc,E,fs=>
  if (ko p num x k i sc E fs fun sc E fs=>aW p num true k (i+1) sc E fs).2.2=0
  then aW p num false n (i+1+k.size) sc (ko p num x k i sc E fs fun sc E fs=>aW p num true k (i+1) sc E fs).1 (ko p num x k i sc E fs fun sc E fs=>aW p num true k (i+1) sc E fs).2.1
  else ko p num x k i sc E fs fun sc E fs=>aW p num true k (i+1) sc E fs
theorem pq {p:List Nd} {num:Int} {x:Nd} {k:Fo} {i:Nat} {sc:Pth} {E:List Ent} {fs:List Fd}:aW p num false (.cons x k .nil) i sc E fs=ko p num x k i sc E fs fun sc E fs=>aW p num true k (i+1) sc E fs:=by
 rw[aW];generalize ko p num x k i sc E fs _=R;obtain⟨a,b,c⟩:=R;by_cases h:c=0
 ·subst h;simp[aW]
 ·simp[h]
theorem rJ {p:List Nd} {num:Int} {x:Nd} {k n:Fo} {i:Nat} {sc:Pth} {E:List Ent} {fs:List Fd}:aW p num false (.cons x k n) i sc E fs=
 if (aW p num false (.cons x k .nil) i sc E fs).2.2=0 then aW p num false n (i+1+k.size) sc (aW p num false (.cons x k .nil) i sc E fs).1 (aW p num false (.cons x k .nil) i sc E fs).2.1 else aW p num false (.cons x k .nil) i sc E fs:=by
 rw[pq];rfl
theorem ee {p:List Nd} {num c':Int}:∀ (ls:List Int) (t:Fo),(ls.all mW)=true->t.V (ls.map (fun c=>(false,c))++[(true,c')])->∀ (i:Nat) (sc:Pth) (E:List Ent) (fs:List Fd),aW p num true t i sc E fs=aW p num false (ay t) (i+ls.length+1) sc E fs
 |[],t,_,h,i,sc,E,fs=>by
  obtain⟨y,bl,n,rfl,h1,h2,h3⟩:=vE h;have:=sm h1;subst this;rw[aW,if_pos h2];rfl
 |c::ls,t,hl,h,i,sc,E,fs=>by
  simp only[List.all_cons,Bool.and_eq_true] at hl;obtain⟨y,n,rfl,h1,h2⟩:=pF hl.1 h;obtain⟨b,g3,_⟩:=aP ls n hl.2 h1
  have hn:ay (.cons y .nil n)=ay n:=by
   cases n with
   |nil=>simp only[Fo.size] at g3;omega
   |cons a b c=>rfl
  rw[aW,if_neg (by omega),hn,ee ls n hl.2 h1];simp only[Fo.size,List.length_cons,Nat.add_zero];rw[show i+1+ls.length+1=i+(ls.length+1)+1 by omega]
theorem qH (k:Int):fG (aD 10 k).1=[(false,110)]++[(true,68)]:=rfl
theorem qG (k:Int):fG (aD 11 k).1=[(false,115)]++[(true,68)]:=rfl
theorem qF (k:Int):fG (aD 12 k).1=[(false,115),(false,105),(false,105)]++[(true,68)]:=rfl
theorem qE (k:Int):fG (aD 16 k).1=[(false,110),(false,105),(false,105)]++[(true,70)]:=rfl
theorem qD (k:Int):fG (aD 17 k).1=[(false,110),(false,110),(false,105),(false,105)]++[(true,70)]:=rfl
theorem dJ {nt num:Int} {p:List Nd} {Eo:List Nat} {E:List Ent} {fs:List Fd}:okH 6 (eL nt num p Eo E fs)=true:=by
 unfold eL fdB;generalize List.flatMap fdC fs=cg
 cases cg<;>rfl
section
variable (nt num:Int) (p:List Nd) (Eo:List Nat)
def DecP (N:Nat):Prop:=∀ (x:Nd) (k:Fo) (i:Nat) (sc:Pth) (E:List Ent) (fs:List Fd),k.size<N->(Fo.cons x k .nil).At p i->(Fo.cons x k .nil).V [(false,68)]->sc.root=true->fs.length+k.size<100000->
 FC Tryz.prog 126 [.s (.ptr (some (0,0))),nI i,ptV sc] 6 (eL nt num p Eo E fs) (.s (.int .i64 (aW p num false (.cons x k .nil) i sc E fs).2.2)) 8 (eL' nt num p Eo (aW p num false (.cons x k .nil) i sc E fs).1 (aW p num false (.cons x k .nil) i sc E fs).2.1)
def Ew (N:Nat):Prop:=∀ (t:Fo) (i:Nat) (sc:Pth) (E:List Ent) (fs:List Fd),t.size<=N->t.At p i->t.V (List.replicate t.cnt (false,68))->sc.root=true->fs.length+t.size<100000->
 FC Tryz.prog 69 [.s (.ptr (some (0,0))),nI i,nI (i+t.size:Nat),ptV sc] 6 (eL nt num p Eo E fs) (.s (.int .i64 (aW p num false t i sc E fs).2.2)) 8 (eL' nt num p Eo (aW p num false t i sc E fs).1 (aW p num false t i sc E fs).2.1)
def G9 (N:Nat):Prop:=∀ (x:Nd) (k:Fo) (i:Nat) (sc:Pth) (E:List Ent) (fs:List Fd),k.size<=N->(Fo.cons x k .nil).At p i->k.V (List.replicate k.cnt (false,68))->sc.root=true->fs.length+k.size<100000->
 FC Tryz.prog 185 [.s (.ptr (some (0,0))),nI i,ptV sc] 6 (eL nt num p Eo E fs) (.s (.int .i64 (aW p num false k (i+1) sc E fs).2.2)) 8 (eL' nt num p Eo (aW p num false k (i+1) sc E fs).1 (aW p num false k (i+1) sc E fs).2.1)
end
theorem rF (i:Nat) (sc:Pth) (fs:List Fd) (R:List Ent×List Int×Int×Int):(rG i sc fs R).length<=fs.length+1:=by
 unfold rG;split<;>simp
theorem dH {p:List Nd} {num:Int}:∀ (m:Bool) (t:Fo) (i:Nat) (sc:Pth) (E:List Ent) (fs:List Fd),(aW p num m t i sc E fs).2.1.length<=fs.length+t.size
 |_,.nil,_,_,E,fs=>by cases ‹Bool›<;>exact Nat.le_refl _
 |true,.cons x k n,i,sc,E,fs=>by
  rw[aW];simp only[Fo.size];split
  ·have:=dH (p:=p) (num:=num) false k (i+1) sc E fs;omega
  ·have:=dH (p:=p) (num:=num) true n (i+1+k.size) sc E fs;omega
 |false,.cons x k n,i,sc,E,fs=>by
  have ih:∀ sc E fs,(aW p num true k (i+1) sc E fs).2.1.length<=fs.length+k.size:=fun sc E fs=>dH true k (i+1) sc E fs
  have h1:(ko p num x k i sc E fs fun sc E fs=>aW p num true k (i+1) sc E fs).2.1.length<=fs.length+k.size+1:=by
   unfold ko lu
   repeat' split
   all_goals first
    |exact Nat.le_succ_of_le (ih _ _ _)
    |(have:=rF i sc fs (im p num sc (ai p (i+4-2)) (ai p (i+4-1)) (ay k) (i+4+1) E [] 0);simp only;omega)
    |(have:=rF i sc fs (im p num sc (ai p (i+5-2)) (ai p (i+5-1)) (ay k) (i+5+1) E [] 0);simp only;omega)
    |(simp only;omega)
  rw[aW];simp only[Fo.size];generalize ko p num x k i sc E fs _=R at h1 |-;split
  ·have:=dH (p:=p) (num:=num) false n (i+1+k.size) sc R.1 R.2.1;omega
  ·omega
theorem tC (nt num:Int) (p:List Nd) (Eo:List Nat) (hp:p.length<=2048) (hE:EOK p Eo) (N:Nat) (ih:DecP nt num p Eo N):Ew nt num p Eo N:=by
 intro t i sc E fs hN ha hv hsc hfs;generalize hR:aW p num false t i sc E fs=R;have hel:=hE.len;refine FC.walk (by kernel_rfl) Tryz.func69 rfl rfl ?_
 repeat'(first|exact y0|refine y1 ?_|refine y2 ?_ ?_|(refine y8 ?_ ?_<;>intro h<;>try exact y6)|refine y3 ?_|refine y7 ?_ ?_|refine y4 ?_|(refine y9 ?_ ?_<;>intro h)|exact y5|fail)
 refine Ex.canon [0,1,2,3,4,5,4,5,6] 29 [(0,.s (.ptr (some (0,0)))),(2,nI (i+t.size:Nat)),(7,.s (.ptr (some (8,0)))),(9,nI i)] [(0,some (ldB (E.length:Nat) nt num p Eo (.row 6 7 fs.length) (.slc none 0 (some 0)))),(1,some (oB E)),(2,some (pB E)),(6,fdB 6 fs),(8,some {cells:=ptC sc,ty:=99})] rfl rfl ⟨VLe.refl _,VLe.refl _,VLe.refl _,VLe.refl _,trivial⟩ ⟨rfl,rfl,rfl,MemP.op rfl ⟨rfl,trivial⟩⟩ (by unfold fdB;generalize List.flatMap fdC fs=cg;cases cg<;>rfl) ?_
 refine Ex.inv (σ:=Fo×Nat×List Ent×List Fd) (fun q=>[(9,nI q.2.1)]) (fun q=>[(0,some (ldB (q.2.2.1.length:Nat) nt num p Eo (.row 6 7 q.2.2.2.length) (.slc none 0 (some 0)))),(1,some (oB q.2.2.1)),(2,some (pB q.2.2.1)),(6,fdB 6 q.2.2.2),(8,some {cells:=ptC sc,ty:=99})])
  (fun q=>q.1.At p q.2.1/\q.1.V (List.replicate q.1.cnt (false,68))/\(i<=q.2.1/\q.2.1+q.1.size=i+t.size)/\q.1.size<=N/\q.2.2.2.length+q.1.size<100000/\aW p num false q.1 q.2.1 sc q.2.2.1 q.2.2.2=R) (fun q=>q.1.size) (t,i,E,fs) rfl (fun _=>rfl) ?_ ?_ ?_ ?_
 ·exact⟨ha,hv,⟨Nat.le_refl _,rfl⟩,hN,hfs,hR⟩
 ·exact⟨VLe.refl _,trivial⟩
 ·exact⟨rfl,rfl,rfl,SubP.op rfl ⟨rfl,trivial⟩⟩
 rintro⟨t',cur,E1,fs1⟩ ⟨t1,t2,⟨t3,t4⟩,t5,t6,t7⟩;simp only at t1 t2 t3 t4 t5 t6 t7 |-
 cases t' with
 |nil=>
  simp only[aW] at t7;subst t7;simp only[Fo.size] at t4
  repeat'(first|exact y0|refine y1 ?_|refine y2 ?_ ?_|(refine y8 ?_ ?_<;>intro h<;>try exact y6)|refine y3 ?_|refine y7 ?_ ?_|refine y4 ?_|(refine y9 ?_ ?_<;>intro h)|exact y5|fail)
  exact Fin.fd 6 (.inl rfl) rfl rfl rfl rfl rfl rfl rfl rfl
 |cons y k n=>
  simp only[Fo.size] at t4 t5 t6;have hcl:=At.lt t1;have hec:=hE.get t1;have hd:=ih y k cur sc E1 fs1 (by omega) ⟨t1.1,t1.2.1,t1.2.2.1,trivial⟩ ⟨t2.1,t2.2.1,trivial⟩ hsc (by omega);have hl:=dH (p:=p) (num:=num) false (.cons y k .nil) cur sc E1 fs1;simp only[Fo.size] at hl;rw[rJ] at t7;generalize aW p num false (.cons y k .nil) cur sc E1 fs1=R1 at hd t7 hl;obtain⟨E2,fs2,e⟩:=R1;simp only at hd t7 hl;by_cases he:e=0
  ·subst he
   rw[if_pos rfl] at t7
   repeat'(first|exact y0|refine y1 ?_|refine y2 ?_ ?_|(refine y8 ?_ ?_<;>intro h<;>try(exact y6))|(refine wC ?_;first|(refine wF 126 ?_;refine CallG.mo [0,1,2,3,6,7] hd rfl dJ rfl rfl rfl ⟨VLe.refl _,VLe.refl _,VLe.refl _,trivial⟩ ⟨⟨rfl,_,rfl,rfl,fun h=>h⟩,⟨rfl,_,rfl,rfl,fun h=>h⟩,⟨rfl,_,rfl,rfl,fun h=>h⟩,FitP.op rfl rfl trivial⟩ rfl rfl (wr:=[(0,some (ldB (E2.length:Nat) nt num p Eo (.row 9 10 fs2.length) (.slc none 0 (some 0)))),(1,some (oB E2)),(2,some (pB E2)),(6,none),(9,fdB 9 fs2)]) (by show [_,_,_,_,_]=_;rw[ah];rfl) ?_))|refine y3 ?_|refine y7 ?_ ?_|refine y4 ?_|(refine y9 ?_ ?_<;>intro h)|exact y5|fail)
   all_goals try omega
   refine LoopR.move (n,cur+1+k.size,E2,fs2) ⟨t1.2.2.2,t2.2.2,⟨by simp only;omega,by simp only;omega⟩,by simp only;omega,by simp only;omega,t7⟩ (by simp only[Fo.size];omega) [0,1,2,3,4,5,9,10,8] rfl ?_ ?_ ?_
   ·repeat' (first|exact VLe.refl _|exact VLe.any _|exact True.intro|exact VLe.of_eq (congrArg nI (by rw[hec]))|refine⟨?_,?_⟩)
   ·exact⟨rfl,rfl,rfl,MemP.op rfl ⟨rfl,trivial⟩⟩
   ·unfold fdB
    generalize List.flatMap fdC fs2=cg
    cases cg<;>rfl
  ·rw[if_neg he] at t7
   subst t7
   repeat'(first|exact y0|refine y1 ?_|refine y2 ?_ ?_|(refine y8 ?_ ?_<;>intro h<;>try(exact y6))|(refine wC ?_;first|(refine wF 126 ?_;refine CallG.mo [0,1,2,3,6,7] hd rfl dJ rfl rfl rfl ⟨VLe.refl _,VLe.refl _,VLe.refl _,trivial⟩ ⟨⟨rfl,_,rfl,rfl,fun h=>h⟩,⟨rfl,_,rfl,rfl,fun h=>h⟩,⟨rfl,_,rfl,rfl,fun h=>h⟩,FitP.op rfl rfl trivial⟩ rfl rfl (wr:=[(0,some (ldB (E2.length:Nat) nt num p Eo (.row 9 10 fs2.length) (.slc none 0 (some 0)))),(1,some (oB E2)),(2,some (pB E2)),(6,none),(9,fdB 9 fs2)]) (by show [_,_,_,_,_]=_;rw[ah];rfl) ?_))|refine y3 ?_|refine y7 ?_ ?_|refine y4 ?_|(refine y9 ?_ ?_<;>intro h)|exact y5|fail)
   all_goals try omega
   exact Fin.fd 9 (.inl rfl) rfl rfl rfl rfl rfl rfl rfl rfl
theorem GZ (nt num:Int) (p:List Nd) (Eo:List Nat) (hp:p.length<=2048) (hE:EOK p Eo) (N:Nat) (ih:Ew nt num p Eo N):G9 nt num p Eo N:=by
 intro x k i sc E fs hN ha hv hsc hfs;have hel:=hE.len;have hil:=At.lt ha;have hei:=hE.get ha;have hd:=ih k (i+1) sc E fs hN ha.2.2.1 hv hsc hfs;generalize aW p num false k (i+1) sc E fs=R at hd |-;obtain⟨E2,fs2,e⟩:=R;simp only at hd |-;refine FC.walk (by kernel_rfl) Tryz.func185 rfl rfl ?_
 repeat'(first|exact y0|refine y1 ?_|refine y2 ?_ ?_|(refine y8 ?_ ?_<;>intro h<;>try exact y6)|(refine wC ?_;first|(refine wF 69 ?_;refine CallG.mo [0,1,2,3,4,5] hd rfl dJ rfl rfl rfl ⟨VLe.refl _,VLe.of_eq (congrArg nI (by push_cast;rfl)),VLe.of_eq (congrArg nI (by rw[hei])),VLe.refl _,trivial⟩ ⟨⟨rfl,_,rfl,rfl,fun h=>h⟩,⟨rfl,_,rfl,rfl,fun h=>h⟩,⟨rfl,_,rfl,rfl,fun h=>h⟩,FitP.op rfl rfl trivial⟩ rfl rfl (wr:=[(0,some (ldB (E2.length:Nat) nt num p Eo (.row 7 8 fs2.length) (.slc none 0 (some 0)))),(1,some (oB E2)),(2,some (pB E2)),(4,none),(7,fdB 7 fs2)]) (by show [_,_,_,_,_]=_;rw[ah];rfl) ?_))|refine y3 ?_|refine y7 ?_ ?_|refine y4 ?_|(refine y9 ?_ ?_<;>intro h)|exact y5|fail)
 all_goals try first
  |omega
  |(rw[hei];omega)
 exact Fin.fd 7 (.inl rfl) rfl rfl rfl rfl rfl rfl rfl rfl
set_option maxRecDepth 100000
set_option maxHeartbeats 2000000
theorem Fg {nt num:Int} {p:List Nd} {Eo:List Nat} {nx:Int} {f:FuncId} {args:List V} {v:V} {fs rs:S} (hf:isJ fs=false) (hr:isJ rs=false) (h:∀ x y:Value,FC Tryz.prog f args 6 [(0,some (ldB nx nt num p Eo (.cst x) (.cst y)))] v 6 [(0,some (ldB nx nt num p Eo (.cst x) (.cst y)))]):
 FC Tryz.prog f args 6 [(0,some (ldB nx nt num p Eo fs rs))] v 6 [(0,some (ldB nx nt num p Eo fs rs))]:=by
 refine⟨(h (.int .i64 0) (.int .i64 0)).1,?_⟩
 refine SC.cst (i:=0) (o:=8) (i':=0) (o':=8) (s:=fs) rfl rfl rfl rfl hf rfl rfl fun x hx=>?_
 refine SC.cst (i:=0) (o:=9) (i':=0) (o':=9) (s:=rs) rfl rfl rfl rfl hr rfl rfl fun y hy=>?_
 exact (h x y).2
theorem yS {nt num:Int} {p:List Nd} {Eo:List Nat} {E:List Ent} {f:FuncId} {args:List V} {v:V} {fs rs:S} (hf:isJ fs=false) (hr:isJ rs=false) (h:∀ x y:Value,FC Tryz.prog f args 6 (lsL nt num p Eo (.cst x) (.cst y) E) v 6 (lsL nt num p Eo (.cst x) (.cst y) E)):
 FC Tryz.prog f args 6 (lsL nt num p Eo fs rs E) v 6 (lsL nt num p Eo fs rs E):=by
 refine⟨(h (.int .i64 0) (.int .i64 0)).1,?_⟩
 refine SC.cst (i:=0) (o:=8) (i':=0) (o':=8) (s:=fs) rfl rfl rfl rfl hf rfl rfl fun x hx=>?_
 refine SC.cst (i:=0) (o:=9) (i':=0) (o':=9) (s:=rs) rfl rfl rfl rfl hr rfl rfl fun y hy=>?_
 exact (h x y).2
theorem Bt {a b:Int} (h:pD a b=false):a<=1000/\b<=1000:=by
 unfold pD at h;simp at h;omega
theorem Gv {p:List Nd} {i:Nat} (h:bU p i=false) (ho:(p.getD i dN).op=16):ai p (i+4-2)<=1000/\ai p (i+4-1)<=1000:=by
 unfold bU at h;rw[ho] at h;simp at h;exact Bt h
theorem Gr {p:List Nd} {i:Nat} (h:bU p i=false) (ho:(p.getD i dN).op=17):ai p (i+5-2)<=1000/\ai p (i+5-1)<=1000:=by
 unfold bU at h;rw[ho] at h;simp at h;exact Bt h
theorem GQ (nt num:Int) (p:List Nd) (Eo:List Nat) (hp:p.length<=2048) (hw:wfN p) (hI:wfI p) (hO:∀ j,j<p.length->bU p j=false) (hNA:∀ j,j<p.length->gY p j) (hE:EOK p Eo) (N:Nat) (ih:G9 nt num p Eo N):DecP nt num p Eo (N+1):=by
 intro x k i sc E fs hN ha hv hsc hfs;have hi:=At.lt ha;have hx:=At.get ha;have hac:=hv.1.1;have hkV:=hv.2.1;have hkA:=ha.2.2.1;obtain⟨hi1,_⟩:=jJ (.inl rfl) ha hv;rw[pq];by_cases h10:x.op=10
 ·have hop:(p.getD i dN).op=10:=by rw[hx];exact h10
  rw[h10,qH] at hkV;obtain⟨bl,hz,hbl⟩:=aP [110] k rfl hkV;obtain⟨hb1,hb2⟩:=hbl p (i+1) hkA;have hdl:=ee (p:=p) (num:=num) [110] k rfl hkV
  have hj:=Fg (fs:=.row 4 5 fs.length) (rs:=.slc none 0 (some 0)) rfl rfl fun x y=>zT nt num p Eo hw (E.length:Nat) x y (i+1) hi1 sc
  rw[show ((i+1:Nat):Int)=(i:Int)+1 by omega] at hj;unfold ko;rw[if_pos h10];have hjr:= @ig p (i+1) sc;generalize dB p (i+1) sc=J at hj hjr |-;obtain⟨q,ok⟩:=J;cases ok
  ·rw[if_pos rfl]
   refine FC.walk (by kernel_rfl) Tryz.func126 rfl rfl ?_
   repeat'(first|exact y0|refine y1 ?_|refine y2 ?_ ?_|(refine y8 ?_ ?_<;>intro h<;>try(exact y6))|(refine wC ?_;first|(refine wF 183 ?_;refine CallG.me [0,1,2,3,4,5] hj rfl rfl ⟨VLe.refl _,VLe.refl _,VLe.refl _,trivial⟩ ⟨⟨rfl,_,rfl,rfl,fun h=>h⟩,trivial⟩ rfl rfl rfl ?_))|refine y3 ?_|refine y7 ?_ ?_|refine y4 ?_|(refine y9 ?_ ?_<;>intro h)|exact y5|fail)
   all_goals try omega
   exact Fin.f4 (.inl rfl) rfl rfl rfl rfl rfl rfl rfl
  ·rw[if_neg (by simp)]
   have hc:=yS (fs:=.row 4 5 fs.length) (rs:=.slc none 0 (some 0)) rfl rfl fun x y=>AV nt num p Eo (E.length:Nat) x y E q (hjr rfl)
   generalize gX E q=C at hc |-;obtain⟨c,ok⟩:=C;cases ok
   ·rw[if_pos rfl]
    refine FC.walk (by kernel_rfl) Tryz.func126 rfl rfl ?_
    repeat'(first|exact y0|refine y1 ?_|refine y2 ?_ ?_|(refine y8 ?_ ?_<;>intro h<;>try(exact y6))|(refine wC ?_;first|(refine wF 183 ?_;refine CallG.me [0,1,2,3,4,5] hj rfl rfl ⟨VLe.refl _,VLe.refl _,VLe.refl _,trivial⟩ ⟨⟨rfl,_,rfl,rfl,fun h=>h⟩,trivial⟩ rfl rfl rfl ?_)|(refine wF 184 ?_;refine CallG.me [0,1,2,3,4,5] hc rfl rfl ⟨VLe.refl _,VLe.refl _,trivial⟩ ⟨⟨rfl,_,rfl,rfl,fun h=>h⟩,⟨rfl,_,rfl,rfl,fun h=>h⟩,⟨rfl,_,rfl,rfl,fun h=>h⟩,trivial⟩ rfl rfl rfl ?_))|refine y3 ?_|refine y7 ?_ ?_|refine y4 ?_|(refine y9 ?_ ?_<;>intro h)|exact y5|fail)
    all_goals try omega
    exact Fin.f4 (.inl rfl) rfl rfl rfl rfl rfl rfl rfl
   ·rw[if_neg (by simp)]
    simp only;rw[hdl];have hd:=ih bl (ay k) (i+1+1) q E fs (by simp only[List.length_singleton] at hz;omega) hb1 hb2.2.1 (hjr rfl) (by simp only[List.length_singleton] at hz;omega);rw[show i+1+[(110:Int)].length+1=i+1+1+1 from rfl];generalize aW p num false (ay k) (i+1+1+1) q E fs=R at hd |-;obtain⟨E2,fs2,e⟩:=R;simp only at hd |-;refine FC.walk (by kernel_rfl) Tryz.func126 rfl rfl ?_
    repeat'(first|exact y0|refine y1 ?_|refine y2 ?_ ?_|(refine y8 ?_ ?_<;>intro h<;>try(exact y6))|(refine wC ?_;first|(refine wF 183 ?_;refine CallG.me [0,1,2,3,4,5] hj rfl rfl ⟨VLe.refl _,VLe.refl _,VLe.refl _,trivial⟩ ⟨⟨rfl,_,rfl,rfl,fun h=>h⟩,trivial⟩ rfl rfl rfl ?_)|(refine wF 184 ?_;refine CallG.me [0,1,2,3,4,5] hc rfl rfl ⟨VLe.refl _,VLe.refl _,trivial⟩ ⟨⟨rfl,_,rfl,rfl,fun h=>h⟩,⟨rfl,_,rfl,rfl,fun h=>h⟩,⟨rfl,_,rfl,rfl,fun h=>h⟩,trivial⟩ rfl rfl rfl ?_)|(refine wF 185 ?_;refine CallG.mo [0,1,2,3,4,5] hd rfl dJ rfl rfl rfl ⟨VLe.refl _,VLe.of_eq (congrArg nI (by push_cast;omega)),VLe.refl _,trivial⟩ ⟨⟨rfl,_,rfl,rfl,fun h=>h⟩,⟨rfl,_,rfl,rfl,fun h=>h⟩,⟨rfl,_,rfl,rfl,fun h=>h⟩,FitP.op rfl rfl trivial⟩ rfl rfl (wr:=[(0,some (ldB (E2.length:Nat) nt num p Eo (.row 8 9 fs2.length) (.slc none 0 (some 0)))),(1,some (oB E2)),(2,some (pB E2)),(4,none),(8,fdB 8 fs2)]) (by show [_,_,_,_,_]=_;rw[ah];rfl) ?_))|refine y3 ?_|refine y7 ?_ ?_|refine y4 ?_|(refine y9 ?_ ?_<;>intro h)|exact y5|fail)
    all_goals try omega
    exact Fin.fd 8 (.inl rfl) rfl rfl rfl rfl rfl rfl rfl rfl
 unfold ko;rw[if_neg h10];by_cases h16:x.op=16
 ·rw[if_pos h16]
  have hop:(p.getD i dN).op=16:=by rw[hx];exact h16
  have hkV':=hkV;rw[h16,qE] at hkV';obtain⟨bl,hz,hbl⟩:=aP [110,105,105] k rfl hkV';obtain⟨hb1,hb2⟩:=hbl p (i+1) hkA;rw[show i+1+([110,105,105]:List Int).length=i+4 from rfl] at hb1;have hnb:=At.lt hb1;have hac:=Gv (hO i hi) hop;have hd:=AJ nt num p Eo hp hw hI hO hNA hE E fs (by omega) i (i+4) bl (ay k) hb1 hb2.2.1 (by omega) hac.1 hac.2 sc hsc _ rfl;unfold lu;generalize im p num sc (ai p (i+4-2)) (ai p (i+4-1)) (ay k) (i+4+1) E [] 0=R at hd |-;generalize rG i sc fs R=fs2 at hd |-;obtain⟨E2,us,bits,e⟩:=R;simp only at hd |-;refine FC.walk (by kernel_rfl) Tryz.func126 rfl rfl ?_
  repeat'(first|exact y0|refine y1 ?_|refine y2 ?_ ?_|(refine y8 ?_ ?_<;>intro h<;>try(exact y6))|(refine wC ?_;first|(refine wF 186 ?_;refine CallG.mo [0,1,2,3,4,5] hd rfl dJ rfl rfl rfl ⟨VLe.refl _,VLe.refl _,VLe.of_eq (congrArg nI (by push_cast;omega)),VLe.refl _,trivial⟩ ⟨⟨rfl,_,rfl,rfl,fun h=>h⟩,⟨rfl,_,rfl,rfl,fun h=>h⟩,⟨rfl,_,rfl,rfl,fun h=>h⟩,FitP.op rfl rfl trivial⟩ rfl rfl (wr:=[(0,some (ldB (E2.length:Nat) nt num p Eo (.row 7 8 fs2.length) (.slc none 0 (some 0)))),(1,some (oB E2)),(2,some (pB E2)),(4,none),(7,fdB 7 fs2)]) (by show [_,_,_,_,_]=_;rw[ah];rfl) ?_))|refine y3 ?_|refine y7 ?_ ?_|refine y4 ?_|(refine y9 ?_ ?_<;>intro h)|exact y5|fail)
  all_goals try omega
  exact Fin.fd 7 (.inl rfl) rfl rfl rfl rfl rfl rfl rfl rfl
 rw[if_neg h16];by_cases h17:x.op=17
 ·rw[if_pos h17]
  have hop:(p.getD i dN).op=17:=by rw[hx];exact h17
  have hkV':=hkV;rw[h17,qD] at hkV';obtain⟨bl,hz,hbl⟩:=aP [110,110,105,105] k rfl hkV';obtain⟨hb1,hb2⟩:=hbl p (i+1) hkA;rw[show i+1+([110,110,105,105]:List Int).length=i+5 from rfl] at hb1;have hnb:=At.lt hb1;have hac:=Gr (hO i hi) hop;have hd:=AJ nt num p Eo hp hw hI hO hNA hE E fs (by omega) i (i+5) bl (ay k) hb1 hb2.2.1 (by omega) hac.1 hac.2 sc hsc _ rfl;unfold lu;generalize im p num sc (ai p (i+5-2)) (ai p (i+5-1)) (ay k) (i+5+1) E [] 0=R at hd |-;generalize rG i sc fs R=fs2 at hd |-;obtain⟨E2,us,bits,e⟩:=R;simp only at hd |-;refine FC.walk (by kernel_rfl) Tryz.func126 rfl rfl ?_
  repeat'(first|exact y0|refine y1 ?_|refine y2 ?_ ?_|(refine y8 ?_ ?_<;>intro h<;>try(exact y6))|(refine wC ?_;first|(refine wF 186 ?_;refine CallG.mo [0,1,2,3,4,5] hd rfl dJ rfl rfl rfl ⟨VLe.refl _,VLe.refl _,VLe.of_eq (congrArg nI (by push_cast;omega)),VLe.refl _,trivial⟩ ⟨⟨rfl,_,rfl,rfl,fun h=>h⟩,⟨rfl,_,rfl,rfl,fun h=>h⟩,⟨rfl,_,rfl,rfl,fun h=>h⟩,FitP.op rfl rfl trivial⟩ rfl rfl (wr:=[(0,some (ldB (E2.length:Nat) nt num p Eo (.row 7 8 fs2.length) (.slc none 0 (some 0)))),(1,some (oB E2)),(2,some (pB E2)),(4,none),(7,fdB 7 fs2)]) (by show [_,_,_,_,_]=_;rw[ah];rfl) ?_))|refine y3 ?_|refine y7 ?_ ?_|refine y4 ?_|(refine y9 ?_ ?_<;>intro h)|exact y5|fail)
  all_goals try omega
  exact Fin.fd 7 (.inl rfl) rfl rfl rfl rfl rfl rfl rfl rfl
 rw[if_neg h17];have had:=Es nt num p Eo hp hw E i hi1 sc (.row 4 5 fs.length) (.slc none 0 (some 0)) rfl rfl;have hao:=kN nt Eo num p hp hw E i hi1 sc;generalize cr p num E i sc=A at had hao |-;obtain⟨E2,id,q,e⟩:=A;simp only at had hao |-
 have hop:(p.getD i dN).op=x.op:=by rw[hx]
 by_cases he:e=0
 ·rcases hao with ⟨_,h⟩|⟨_,rfl,hA⟩
  ·exact absurd he h
  subst he;have hqr:=ig hA.join;rw[if_neg (by simp)];by_cases hb:x.op=11\/x.op=12
  ·rw[if_pos hb]
   rcases hb with hb|hb
   ·rw[hb,qG] at hkV
    rw[hb] at hop;obtain⟨bl,hz,hbl⟩:=aP [115] k rfl hkV;obtain⟨hb1,hb2⟩:=hbl p (i+1) hkA;rw[ee (p:=p) (num:=num) [115] k rfl hkV];have hd:=ih bl (ay k) (i+1+1) q E2 fs (by simp only[List.length_singleton] at hz;omega) hb1 hb2.2.1 hqr (by simp only[List.length_singleton] at hz;omega);rw[show i+1+[(115:Int)].length+1=i+1+1+1 from rfl];generalize aW p num false (ay k) (i+1+1+1) q E2 fs=R at hd |-;obtain⟨E3,fs2,e⟩:=R;simp only at hd |-;refine FC.walk (by kernel_rfl) Tryz.func126 rfl rfl ?_
    repeat'(first|exact y0|refine y1 ?_|refine y2 ?_ ?_|(refine y8 ?_ ?_<;>intro h<;>try(exact y6))|(refine wC ?_;first|(refine wF 187 ?_;refine CallG.me [0,1,2,3,4,5] had rfl rfl ⟨VLe.refl _,VLe.refl _,VLe.refl _,trivial⟩ ⟨⟨rfl,_,rfl,rfl,fun h=>h⟩,⟨rfl,_,rfl,rfl,fun h=>h⟩,⟨rfl,_,rfl,rfl,fun h=>h⟩,trivial⟩ rfl rfl rfl ?_)|(refine wF 185 ?_;refine CallG.mo [0,1,2,3,4,5] hd rfl dJ rfl rfl rfl ⟨VLe.refl _,VLe.of_eq (congrArg nI (by push_cast;omega)),VLe.refl _,trivial⟩ ⟨⟨rfl,_,rfl,rfl,fun h=>h⟩,⟨rfl,_,rfl,rfl,fun h=>h⟩,⟨rfl,_,rfl,rfl,fun h=>h⟩,FitP.op rfl rfl trivial⟩ rfl rfl (wr:=[(0,some (ldB (E3.length:Nat) nt num p Eo (.row 8 9 fs2.length) (.slc none 0 (some 0)))),(1,some (oB E3)),(2,some (pB E3)),(4,none),(8,fdB 8 fs2)]) (by show [_,_,_,_,_]=_;rw[ah];rfl) ?_))|refine y3 ?_|refine y7 ?_ ?_|refine y4 ?_|(refine y9 ?_ ?_<;>intro h)|exact y5|fail)
    all_goals try omega
    exact Fin.fd 8 (.inl rfl) rfl rfl rfl rfl rfl rfl rfl rfl
   ·rw[hb,qF] at hkV
    rw[hb] at hop;obtain⟨bl,hz,hbl⟩:=aP [115,105,105] k rfl hkV;obtain⟨hb1,hb2⟩:=hbl p (i+1) hkA;rw[ee (p:=p) (num:=num) [115,105,105] k rfl hkV];simp only[List.length_cons,List.length_nil] at hz;have hd:=ih bl (ay k) (i+1+3) q E2 fs (by omega) hb1 hb2.2.1 hqr (by omega);rw[show i+1+[(115:Int),105,105].length+1=i+1+3+1 from rfl];generalize aW p num false (ay k) (i+1+3+1) q E2 fs=R at hd |-;obtain⟨E3,fs2,e⟩:=R;simp only at hd |-;refine FC.walk (by kernel_rfl) Tryz.func126 rfl rfl ?_
    repeat'(first|exact y0|refine y1 ?_|refine y2 ?_ ?_|(refine y8 ?_ ?_<;>intro h<;>try(exact y6))|(refine wC ?_;first|(refine wF 187 ?_;refine CallG.me [0,1,2,3,4,5] had rfl rfl ⟨VLe.refl _,VLe.refl _,VLe.refl _,trivial⟩ ⟨⟨rfl,_,rfl,rfl,fun h=>h⟩,⟨rfl,_,rfl,rfl,fun h=>h⟩,⟨rfl,_,rfl,rfl,fun h=>h⟩,trivial⟩ rfl rfl rfl ?_)|(refine wF 185 ?_;refine CallG.mo [0,1,2,3,4,5] hd rfl dJ rfl rfl rfl ⟨VLe.refl _,VLe.of_eq (congrArg nI (by push_cast;omega)),VLe.refl _,trivial⟩ ⟨⟨rfl,_,rfl,rfl,fun h=>h⟩,⟨rfl,_,rfl,rfl,fun h=>h⟩,⟨rfl,_,rfl,rfl,fun h=>h⟩,FitP.op rfl rfl trivial⟩ rfl rfl (wr:=[(0,some (ldB (E3.length:Nat) nt num p Eo (.row 8 9 fs2.length) (.slc none 0 (some 0)))),(1,some (oB E3)),(2,some (pB E3)),(4,none),(8,fdB 8 fs2)]) (by show [_,_,_,_,_]=_;rw[ah];rfl) ?_))|refine y3 ?_|refine y7 ?_ ?_|refine y4 ?_|(refine y9 ?_ ?_<;>intro h)|exact y5|fail)
    all_goals try omega
    exact Fin.fd 8 (.inl rfl) rfl rfl rfl rfl rfl rfl rfl rfl
  ·rw[if_neg hb]
   refine FC.walk (by kernel_rfl) Tryz.func126 rfl rfl ?_
   repeat'(first|exact y0|refine y1 ?_|refine y2 ?_ ?_|(refine y8 ?_ ?_<;>intro h<;>try(exact y6))|(refine wC ?_;first|(refine wF 187 ?_;refine CallG.me [0,1,2,3,4,5] had rfl rfl ⟨VLe.refl _,VLe.refl _,VLe.refl _,trivial⟩ ⟨⟨rfl,_,rfl,rfl,fun h=>h⟩,⟨rfl,_,rfl,rfl,fun h=>h⟩,⟨rfl,_,rfl,rfl,fun h=>h⟩,trivial⟩ rfl rfl rfl ?_))|refine y3 ?_|refine y7 ?_ ?_|refine y4 ?_|(refine y9 ?_ ?_<;>intro h)|exact y5|fail)
   all_goals try omega
   all_goals exact Fin.f4 (.inl rfl) rfl rfl rfl rfl rfl rfl rfl
 ·rcases hao with ⟨rfl,_⟩|⟨h,_⟩
  ·rw[if_pos he]
   refine FC.walk (by kernel_rfl) Tryz.func126 rfl rfl ?_
   repeat'(first|exact y0|refine y1 ?_|refine y2 ?_ ?_|(refine y8 ?_ ?_<;>intro h<;>try(exact y6))|(refine wC ?_;first|(refine wF 187 ?_;refine CallG.me [0,1,2,3,4,5] had rfl rfl ⟨VLe.refl _,VLe.refl _,VLe.refl _,trivial⟩ ⟨⟨rfl,_,rfl,rfl,fun h=>h⟩,⟨rfl,_,rfl,rfl,fun h=>h⟩,⟨rfl,_,rfl,rfl,fun h=>h⟩,trivial⟩ rfl rfl rfl ?_))|refine y3 ?_|refine y7 ?_ ?_|refine y4 ?_|(refine y9 ?_ ?_<;>intro h)|exact y5|fail)
   all_goals try omega
   all_goals exact Fin.f4 (.inl rfl) rfl rfl rfl rfl rfl rfl rfl
  ·exact absurd h he
end Go.Proofs.YtegjgpldfgjoiaaGreatDoor
