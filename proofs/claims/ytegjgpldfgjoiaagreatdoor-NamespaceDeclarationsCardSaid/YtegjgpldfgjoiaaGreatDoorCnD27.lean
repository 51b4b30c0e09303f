import Derived.Test.YtegjgpldfgjoiaaGreatDoorCnD23
import Derived.Test.YtegjgpldfgjoiaaGreatDoorCnD22
set_option linter.all false
set_option maxHeartbeats 40000000
set_option maxRecDepth 100000
namespace Go.Proofs.YtegjgpldfgjoiaaGreatDoor
open Go Ab
abbrev psB (g:Nat) (D:List Pth):Option Bl:=g9 99 (g+1) 3 (D.flatMap cX)
theorem C9 (ty g w:Nat) (cs:List S) (c:S) (l:List S):g9 ty g w (cs++c::l)=some {cells:=cs++c::l,ty:=ty,more:=true,sym:=true,flat:=true,gh:=some (g,w)}:=by cases cs<;>rfl
theorem C3 {D:List Pth} {P:Pth} {k j:Nat} {x:S} (hk:k<D.length+1) (hx:(cX ((D++[P]).getD k z0))[j]? =some x):(D.flatMap cX++cX P)[k*3+j]? =some x/\bL x=true:=by
 have:=iT (l:=D++[P]) (by simpa using hk) hx;rw[Z0r] at this
 simpa using this
theorem mR {l:List By} (h:dW l) (k:Nat):dW (l.take k):=λi hi=>by
 rw[Z19] at hi;have:=h i aa;rw[Z00] at this |-;rw[Z2w,if_pos aa];exact this
theorem D1 (br:Bool) (bu:Int) (bs:List By) (rr:Bool) (ru:Int) (rs:List By) (h1s:dW bs) (h2s:dW rs):
 FQ 52 [.agg [.bool br,.int .i64 bu,aR bs],.agg [.bool rr,.int .i64 ru,aR rs]] 0 [] (.s (zG (aU ⟨br,bu,bs⟩ ⟨rr,ru,rs⟩))) 0 []:=by
 have ha:=eV br bu bs h1s;have hv:=eV rr ru rs h2s;have hj:=qo br bu bs rr ru rs h1s h2s;have hsz:(Tryz.prog.types[99]).size=3:=bd;have hby:(Tryz.prog.types[99]).bytes=40:=bd;refine wW Tryz.func52 ?_
 cases h1:aA ⟨br,bu,bs⟩<;>rw[h1] at ha
 ·
  repeat'(first|refine y1 ?_|refine y2 ?_ ?_|refine bt ha ?_|refine cW (.inl rfl) rfl ?_ rfl|refine y3 ?_|exact y5|fail)
  simp only[aU,bz,h1,Z4f,true_or,if_true];exact VLe.s SLe.nil
 cases br
 ·
  repeat'(first|refine y1 ?_|refine y2 ?_ ?_|refine bt ha ?_|refine cW (.inl rfl) rfl ?_ rfl|refine y3 ?_|exact y5|fail)
  simp only[aU,bz,Z2c,true_or,if_true];exact VLe.s SLe.nil
 have ha1:bz ⟨true,bu,bs⟩=true:=by unfold bz;rw[h1];rfl
 cases h2:aA ⟨rr,ru,rs⟩<;>rw[h2] at hv
 ·
  repeat'(first|refine y1 ?_|refine y2 ?_ ?_|refine bt ha ?_|refine bt hv ?_|refine cW (.inl rfl) rfl ?_ rfl|refine y3 ?_|exact y5|fail)
  simp only[aU,h2,or_true,if_true];exact VLe.s SLe.nil
 obtain⟨a1,a2,a3⟩:=cy ha1;obtain⟨v1,v2,v3,v4,v5,v6⟩:=aG h2;simp only at a1 a2 a3 v1 v2 v3 v4 v5 v6;by_cases hc:rr=true\/0<ru\/rs.length≠1
 ·have hcand:aU ⟨true,bu,bs⟩ ⟨rr,ru,rs⟩=if (au ⟨true,bu,bs⟩ ⟨rr,ru,rs⟩).2 then [(au ⟨true,bu,bs⟩ ⟨rr,ru,rs⟩).1] else []:=by
   unfold aU;rw[if_neg (by simp[ha1,h2]),if_pos hc]
  rw[hcand];generalize au ⟨true,bu,bs⟩ ⟨rr,ru,rs⟩=j at*;obtain⟨p,ok⟩:=j;cases rr
  all_goals
   first|(have hc':0<ru\/rs.length≠1:=by simpa using hc)|skip
   cases ok
   ·
    repeat'(first|refine y1 ?_|refine y2 ?_ ?_|refine y4 λh=>?_|refine bt ha ?_|refine bt hv ?_|refine an hj ?_|refine cW (.inl rfl) rfl ?_ rfl|refine y3 ?_|exact y5|fail)
    all_goals exact VLe.s SLe.nil
   ·
    repeat'(first|refine y1 ?_|refine y2 ?_ ?_|refine y4 λh=>?_|refine bt ha ?_|refine bt hv ?_|refine an hj ?_|refine Cl [.app 1 (cX p)] rfl rfl ?_ rfl rfl rfl ?_|refine Ex.fz 4 (λk=>cX ([p].getD k z0)) 3 rfl rfl rfl rfl (λk _=>rfl) (p8 p) rfl rfl ?_|refine cW (.inl rfl) rfl ?_ rfl|refine y3 ?_|exact y5|fail)
    all_goals first
     |exact ah _
     |(rw[hsz];exact Z02 _)
 ·have hr:rr=false:=by cases rr<;>simp_all
  have hu:ru=0:=by
   have: ¬0<ru:=λh=>hc (.inr (.inl h))
   omega
  have hl:rs.length=1:=Z4c.1 λh=>hc (.inr (.inr h))
  obtain⟨s0,rfl⟩:∃ s0,rs=[s0]:=Z5o.1 hl;subst hr hu a2
  have hcand:aU ⟨true,0,bs⟩ ⟨false,0,[s0]⟩=cC bs s0 bs.length:=by
   unfold aU;rw[if_neg (by simp[ha1,h2]),if_neg av];rfl
  rw[hcand]
  repeat'(first|refine yA ?_|refine y2 ?_ ?_|refine y4 λh=>?_|refine bt ha ?_|refine bt hv ?_|exact y5|fail)
  refine fN 5 (.s (.row 2 3 0)) (VLe.s SLe.nilrow) rfl (Ex.upN (n':=4) aa ?_)
  refine cD (σ:=Nat×List Pth) (λx=>[(5,.s (.row 2 3 x.2.length))]) (λx=>[(0,some {cells:=[.bool true,.int .i64 0,aR (bs.take x.1)],ty:=99}),(1,some {cells:=[.bool false,.int .i64 0,aR [s0]],ty:=99}),(2,psB 2 (x.2))])
   (λx=>x.1<=bs.length/\x.2++cC bs s0 x.1=cC bs s0 bs.length) (λx=>x.1) (bs.length,[]) rfl (λ_=>rfl) ⟨Z02 _,av⟩ bc ⟨?_,rfl,trivial⟩ ?_
  ·simp only[Z1v];rfl
  ·rintro⟨k,D⟩ ⟨i1,i2⟩
   simp only at i1 i2 |-;have hjk:=qo true 0 (bs.take k) false 0 [s0] (mR h1s k) h2s;have hpk:=xy true 0 (bs.take k) (mR h1s k);rw[pb ha1 h2 i1] at hjk;rw[lP ha1 i1] at hpk
   have hlen:D.length<=33:=by
    have e1:=gm bs s0 bs.length;rw[<-i2,Z03] at e1;omega
   cases k with
   |zero=>
    rw[if_neg aa] at hjk;rw[if_pos rfl] at hpk;simp only[cC] at i2
    repeat'(first|refine yA ?_|refine y2 ?_ ?_|refine an hjk ?_|exact y5|fail)
    refine jC (i:=2) (g:=3) (m:=D.length) (w:=3) (cs:=D.flatMap cX) (foot:=[5]) (k:=1) (add:=cX (Pth.mk true 0 (bs.take 0++[s0]))) rfl rfl (by rw[dz]) rfl rfl rfl rfl rfl rfl rfl hsz ac rfl ⟨Z5a hsz.symm,rfl⟩ ac (by simp[cX]) rfl (by rw[hby];omega) aa rfl ?_
    repeat'(first|refine y1 ?_|refine y2 ?_ ?_|refine an hpk ?_|refine Ex.fz 4 (λk=>cX ((D++[Pth.mk true 0 (bs.take 0++[s0])]).getD k z0)) 3 rfl (C9 _ _ _ _ _ _) rfl rfl (λk _=>rfl) (λk j x hk hx=>C3 hk hx) rfl rfl ?_|refine cW (.inl rfl) rfl ?_ rfl|refine y3 ?_|exact y5|fail)
    rw[<-i2];unfold zG;rw[Z03];exact ah _
   |succ k=>
    rw[if_neg aa] at hpk;simp only[cC] at i2;by_cases h32:32<k+2
    ·rw[if_pos h32] at i2
     rw[if_pos aa] at hjk
     repeat'(first|refine yA ?_|refine y2 ?_ ?_|refine an hjk ?_|refine an hpk ?_|exact y5|fail)
     refine fq (k,D) ⟨by simp only;omega,i2⟩ (by simp only;omega) [0,1,2,3] rfl ?_ ?_ ?_
     ·repeat'(first|exact ah _|exact cT _|exact Z0o|refine⟨?_,?_⟩)
     ·exact⟨rfl,rfl,bN rfl trivial⟩
     ·unfold psB;generalize List.flatMap _ _=cg;cases cg<;>rfl
    ·rw[if_neg h32] at i2
     rw[if_neg aa] at hjk
     repeat'(first|refine yA ?_|refine y2 ?_ ?_|refine an hjk ?_|exact y5|fail)
     refine jC (i:=2) (g:=3) (m:=D.length) (w:=3) (cs:=D.flatMap cX) (foot:=[5]) (k:=1) (add:=cX (Pth.mk true 0 (bs.take (k+1)++[s0]))) rfl rfl (by rw[dz]) rfl rfl rfl rfl rfl rfl rfl hsz ac rfl ⟨Z5a hsz.symm,rfl⟩ ac (by simp[cX]) rfl (by rw[hby];omega) aa rfl ?_
     repeat'(first|refine yA ?_|refine y2 ?_ ?_|refine an hpk ?_|exact y5|fail)
     refine fq (k,D++[Pth.mk true 0 (bs.take (k+1)++[s0])]) ⟨by simp only;omega,by simpa using i2⟩ (by simp only;omega) [0,1,6,7] rfl ?_ ?_ ?_
     ·repeat'(first|exact ah _|exact cT _|exact Z0o|(refine bp (congrArg V.s (?_:S.row 6 7 _=S.row 6 7 _));simp;done)|refine⟨?_,?_⟩)
     ·refine⟨rfl,rfl,bN ?_ trivial⟩
      rw[Z0r];rfl
     ·unfold psB;generalize List.flatMap _ _=cg;cases cg<;>rfl
theorem D2 (b r:Pth) (h1:dW b.segs) (h2:dW r.segs):FQ 52 [jh b,jh r] 0 [] (.s (zG (aU b r))) 0 []:=D1 b.root b.up b.segs r.root r.up r.segs h1 h2
def eC (l:List Int) (dep:Int) (args B:Nat):Prop:=∀ i,i<=l.length->∃ (r:List Nd) (i':Nat),OKr B r/\i'<=l.length/\FQ 218 [cP,nI dep,nI args] 1 (b_ l i) (ao r) 1 (b_ l i')
def Ie (l:List Int) (dep:Int) (args B:Nat):Prop:=∀ i,i<=l.length->∃ (r:List Nd) (i':Nat),OKr B r/\i'<=l.length/\FQ 221 [cP,nI dep,nI args] 1 (b_ l i) (ao r) 1 (b_ l i')
theorem mM (l:List Int) (hl:l.length<=20000000000000) (dep:Int) (h1: -10<=dep) (h2:dep<=10) (args B:Nat) (ha:args<=100) (hB1:1<=B) (hB2:B<=100000) (hE:0<dep->eC l (dep-1) args B):Ie l dep args (1+2*B):=by
 intro i hi;obtain⟨k,i1,hk,hi1,c1⟩:=ax l hl 5 ac ac i hi;by_cases k1:k=1
 ·subst k1
  obtain⟨s,i2,hs,hi2,c2⟩:=k_ l hl i1 hi1;obtain⟨r,o,d⟩:=cR s aa;refine⟨r,i2,o.le aa,hi2,?_⟩;refine wW Tryz.func221 ?_
  repeat'(first|refine yA ?_|refine y2 ?_ ?_|refine y4 λh=>?_|refine ay c1 ?_|refine ay c2 ?_|refine an d ?_|exact y5|fail)
  all_goals first
   |exact bD
   |omega
   |exact al aa aa
   |exact aj aa aa
 by_cases k2:k=2/\0<args
 ·obtain⟨rfl,hr⟩:=k2
  obtain⟨m,i2,hm2,hi2,c2⟩:=ax l hl args hr aa i1 hi1;obtain⟨r,o,d⟩:=nh 7 m [] aa ac;refine⟨r,i2,o.le aa,hi2,?_⟩;refine wW Tryz.func221 ?_
  repeat'(first|refine yA ?_|refine y2 ?_ ?_|refine y4 λh=>?_|refine ay c1 ?_|refine ay c2 ?_|(refine wX ?_;refine oz d rfl ⟨ah _,ah _,ah _,VLe.s SLe.nil,trivial⟩ rfl rfl rfl ?_)|exact y5|fail)
  all_goals first
   |exact bD
   |omega
   |exact al aa aa
   |exact aj aa aa
 by_cases k3:k=3/\0<dep
 ·obtain⟨rfl,hr⟩:=k3
  obtain⟨r1,i2,o1,hi2,c2⟩:=hE hr i1 hi1;obtain⟨r2,i3,o2,hi3,c3⟩:=hE hr i2 hi2;obtain⟨r,o,dn⟩:=aM 76 [r1,r2] (B:=B) (1+2*B) (by simp[o1,o2]) (by simp;omega) av av;unfold ce at dn;refine⟨r,i3,o,hi3,?_⟩;refine wW Tryz.func221 ?_
  repeat'(first|refine yA ?_|refine y2 ?_ ?_|refine y4 λh=>?_|refine ay c1 ?_|refine ay c2 ?_|refine ay c3 ?_|(refine wX ?_;refine yy 45 (λk=>[nS ([r1,r2].getD k [])]) 1 dn rfl rfl rfl rfl (λ_ _=>rfl) (λkk jj zz hk hx=>cM (K:=[r1,r2]) hk hx) rfl bc rfl rfl rfl ?_)|exact y5|fail)
  all_goals first
   |exact bD
   |omega
   |exact al aa aa
   |exact aj aa aa
 by_cases k4:k=4/\0<dep
 ·obtain⟨rfl,hr⟩:=k4
  obtain⟨r1,i2,o1,hi2,c2⟩:=hE hr i1 hi1;obtain⟨r,o,dn⟩:=aM 84 [r1] (B:=B) (1+2*B) (by simp[o1]) (by simp;omega) av (by simp;omega);unfold ce at dn;refine⟨r,i2,o,hi2,?_⟩;refine wW Tryz.func221 ?_
  repeat'(first|refine yA ?_|refine y2 ?_ ?_|refine y4 λh=>?_|refine ay c1 ?_|refine ay c2 ?_|(refine wX ?_;refine yy 59 (λk=>[nS ([r1].getD k [])]) 1 dn rfl rfl rfl rfl (λ_ _=>rfl) (λkk jj zz hk hx=>cM (K:=[r1]) hk hx) rfl bc rfl rfl rfl ?_)|exact y5|fail)
  all_goals first
   |exact bD
   |omega
   |exact al aa aa
   |exact aj aa aa
 ·obtain⟨m,i2,hm2,hi2,c2⟩:=ax l hl 3 ac ac i1 hi1
  obtain⟨r,o,d⟩:=nh 6 m [] aa ac;refine⟨r,i2,o.le aa,hi2,?_⟩;refine wW Tryz.func221 ?_
  repeat'(first|refine yA ?_|refine y2 ?_ ?_|refine y4 λh=>?_|refine ay c1 ?_|refine ay c2 ?_|(refine wX ?_;refine oz d rfl ⟨ah _,ah _,ah _,VLe.s SLe.nil,trivial⟩ rfl rfl rfl ?_)|exact y5|fail)
  all_goals first
   |exact bD
   |omega
   |exact al aa aa
   |exact aj aa aa
inductive CaT (l:List Int) (dep:Int) (args:Nat):Nat->Nat->List (List Nd)->Nat->Prop
 |nil (i:Nat):CaT l dep args 0 i [] i
 |cons {n i i1 i':Nat} {r:List Nd} {K:List (List Nd)} (c:FQ 218 [cP,nI dep,nI args] 1 (b_ l i) (ao r) 1 (b_ l i1)) (t:CaT l dep args n i1 K i'):CaT l dep args (n+1) i (r::K) i'
theorem BQ {l:List Int} {dep:Int} {args n i i':Nat} {K:List (List Nd)} (h:CaT l dep args n i K i'):K.length=n:=by
 induction h with
 |nil i=>rfl
 |cons _ _ ih=>simp[ih]
theorem H2 (l:List Int) (dep:Int) (args B:Nat) (hE:eC l dep args B):∀ (n i:Nat),i<=l.length->∃ K i',CaT l dep args n i K i'/\i'<=l.length/\∀ r∈K,OKr B r
 |0,i,hi=>⟨[],i,.nil i,hi,λr hr=>by cases hr⟩
 |n+1,i,hi=>by
  obtain⟨r,i1,o,hi1,c⟩:=hE i hi;obtain⟨K,i',h1,h2,h4⟩:=H2 l dep args B hE n i1 hi1;refine⟨r::K,i',.cons c h1,h2,λq hq=>?_⟩
  rcases Z0h.1 hq with rfl|hq
  ·exact o
  ·exact h4 q hq
theorem Db (op n:Int) (s:By) (K:List (List Nd)) {B:Nat} (C:Nat) (hn:0<=n) (hs:wL s<=1000) (hK:∀ r∈K,OKr B r) (hB:K.length*B<=1000000000000) (hk:K.length<=4096) (hC:1+K.length*B<=C) (hd:wE op+K.length*B<=C:=by first|(simp[wE];done)|(simp[wE];omega)|(unfold wE;rw[if_neg aa];first|(simp;done)|(simp;omega))):
 ∃ r,OKr C r/\FQ 103 [nI op,.s (.int .u64 n),sV s,.s (ce K)] 0 [] (ao r) 0 []:=⟨_,OKr.tree hK hn hs hC hd,uA op n s K hK hB hk⟩
def calls:List By:=[[77],[65],[92,77],[94,77]]
theorem BP (l:List Int) (hl:l.length<=20000000000000) (dep:Int) (h1: -10<=dep) (h2:dep<=10) (args B:Nat) (ha:args<=100) (hB1:1<=B) (hB2:B<=100000) (hE:eC l (dep-1) args B) (i:Nat) (hi:i<=l.length):
 ∃ (r:List Nd) (i':Nat),OKr (1+2*B) r/\i'<=l.length/\FQ 219 [cP,nI dep,nI args] 1 (b_ l i) (ao r) 1 (b_ l i'):=by
 obtain⟨m,i2,hm2,hi2,c2⟩:=ax l hl 3 ac ac i hi;obtain⟨K,i3,hB,hi3,hK⟩:=H2 l (dep-1) args B hE m i2 hi2;have hKl:=BQ hB;obtain⟨q,i4,hq,hi4,c4⟩:=ax l hl 4 ac ac i3 hi3;have hKB:K.length*B<=2*B:=Z1w B aa
 have hsl:wL (calls.getD q [])<=1000:=by
  rcases (aa:q=0\/q=1\/q=2\/q=3) with rfl|rfl|rfl|rfl<;>decide
 obtain⟨r,o,dn⟩:=Db 5 0 (calls.getD q []) K (B:=B) (1+2*B) ac hsl hK aa aa aa;unfold ce at dn;refine⟨r,i4,o,hi4,?_⟩;have hsz:(Tryz.prog.types[32]).size=1:=bd;have hby:(Tryz.prog.types[32]).bytes=24:=bd;refine wW Tryz.func219 ?_
 repeat'(first|refine yA ?_|refine y2 ?_ ?_|refine y4 λh=>?_|refine ay c2 ?_|exact y5|fail)
 refine fN 7 (.s (.row 1 2 0)) (VLe.s SLe.nilrow) rfl (Ex.upN (n':=3) aa ?_)
 refine cD (σ:=Nat×Nat×List (List Nd)) (λs=>[(7,.s (.row 1 2 s.2.2.length)),(8,nI s.1)]) (λs=>[(0,some {cells:=[q9 l,.int .i64 (s.2.1:Int)],ty:=97}),(1,kg 1 s.2.2)])
  (λs=>∃ R,CaT l (dep-1) args s.1 s.2.1 R i3/\s.2.2++R=K) (λs=>s.1) (m,i2,[]) rfl (λ_=>rfl) ⟨K,hB,rfl⟩ bc ⟨rfl,trivial⟩ ?_
 rintro⟨n,j,D⟩ ⟨R,hR,hD⟩;simp only at hR hD |-
 cases hR with
 |nil=>
  rw[Z0u] at hD;subst hD
  rcases (aa:q=0\/q=1\/q=2\/q=3) with rfl|rfl|rfl|rfl
  all_goals
   cases D with
   |nil=>
    repeat'(first|refine yA ?_|refine y2 ?_ ?_|refine y4 λh=>?_|refine ay c4 ?_|(refine wX ?_;refine oz dn rfl ⟨ah _,ah _,ah _,VLe.s SLe.row0,trivial⟩ rfl rfl rfl ?_)|exact y5|fail)
    all_goals first
    |exact bD
    |omega
    |exact al aa aa
    |exact aj aa aa
   |cons x D=>
    repeat'(first|refine yA ?_|refine y2 ?_ ?_|refine y4 λh=>?_|refine ay c4 ?_|(refine wX ?_;refine yy 28 (λk=>[nS ((x::D).getD k [])]) 1 dn rfl rfl rfl rfl (λ_ _=>rfl) (λkk jj zz hk hx=>cM (K:=(x::D)) hk hx) rfl bc rfl rfl rfl ?_)|exact y5|fail)
    all_goals first
    |exact bD
    |omega
    |exact al aa aa
    |exact aj aa aa
 | @cons n _ j1 _ r' R' c t=>
   have hRl:=BQ t
   have hlen:D.length+n<=2:=by rw[<-hKl,<-hD] at hm2;simp at hm2;omega
   repeat'(first|refine y1 ?_|refine y2 ?_ ?_|refine y4 λh=>?_|refine ay c ?_|refine jC (i:=1) (g:=2) (m:=D.length) (w:=1) (cs:=D.map λr=>nS r) (foot:=[3]) (k:=1) (add:=[nS r']) rfl rfl av rfl rfl rfl rfl rfl rfl rfl hsz ac rfl ⟨Z02 _,rfl⟩ ac av rfl (by rw[hby];omega) aa rfl ?_|refine y3 ?_|exact y5|fail)
   all_goals try first
    |exact aj (by push_cast;omega) (by push_cast;omega)
    |omega
   refine fq (n,j1,D++[r']) ⟨R',t,by simpa using hD⟩ (by simp only;omega) [0,4,5] rfl ?_ ?_ ?_
   ·repeat' (first|exact ah _|exact cT _|exact Z0o|exact bp (congrArg nI (by push_cast;omega))|(refine bp (congrArg V.s (?_:S.row 4 5 _=S.row 4 5 _));simp;done)|refine⟨?_,?_⟩)
   ·refine⟨rfl,bN ?_ trivial⟩
    rw[Z0d];rfl
   ·exact (by unfold kg;generalize List.map _ _=cg;cases cg<;>rfl)
theorem yY (l:List Int) (hl:l.length<=20000000000000) (dep:Int) (h1: -10<=dep) (h2:dep<=10) (args B:Nat) (ha:args<=100) (hB1:1<=B) (hB2:B<=100000) (hE:eC l (dep-1) args B) (i:Nat) (hi:i<=l.length):
 ∃ (r:List Nd) (i':Nat),OKr (1+2*B) r/\i'<=l.length/\FQ 220 [cP,nI dep,nI args] 1 (b_ l i) (ao r) 1 (b_ l i'):=by
 obtain⟨k,i1,hk,hi1,c1⟩:=ax l hl 2 ac ac i hi;by_cases k1:k=0
 ·subst k1
  obtain⟨m,i2,hm2,hi2,c2⟩:=ax l hl 3 ac ac i1 hi1;obtain⟨q,i3,hq,hi3,c3⟩:=ax l hl 40000 ac ac i2 hi2
  have hP:(m:Int)*(q:Int)<=120000:=by
   have:=Nat.mul_le_mul (Z1k hm2) (Z1k hq);have h:((m*q:Nat):Int)<=((3*40000:Nat):Int):=Int.ofNat_le.2 this;rw[Int.natCast_mul] at h;omega
  have hP0:0<=(m:Int)*(q:Int):=Z5y aa aa;obtain⟨r1,o1,d1⟩:=cR [77,84,88] ac;obtain⟨r2,o2,d2⟩:=dm (if (65535:Int)<(m:Int)*(q:Int) then 65535 else (m:Int)*(q:Int)) (by split<;>omega);obtain⟨r,o,dn⟩:=aM 41 [r1,r2] (B:=1) 3 (by simp[o1,o2]) av av av;unfold ce at dn;refine⟨r,i3,o.le aa,hi3,?_⟩;refine wW Tryz.func220 ?_
  repeat'(first|refine y1 ?_|refine y2 ?_ ?_|refine y4 λh=>?_|refine ay c1 ?_|refine ay c2 ?_|refine ay c3 ?_|refine an d1 ?_|refine y3 ?_|exact y5|fail)
  refine kO [.num (if (65535:Int)<(m:Int)*(q:Int) then 65535 else (m:Int)*(q:Int))] rfl rfl ⟨trivial,rfl⟩ ?_;generalize hz:(if (65535:Int)<(m:Int)*(q:Int) then 65535 else (m:Int)*(q:Int))=z at*
  have hz0:0<=z:=by rw[<-hz];split<;>omega
  have hz1:z<=65535:=by rw[<-hz];split<;>omega
  repeat'(first|refine y1 ?_|refine y2 ?_ ?_|refine an d2 ?_|(refine wX ?_;refine yy 19 (λk=>[nS ([r1,r2].getD k [])]) 1 dn rfl rfl rfl rfl (λ_ _=>rfl) (λkk jj zz hk hx=>cM (K:=[r1,r2]) hk hx) rfl bc rfl rfl rfl ?_)|refine y3 ?_|exact y5|fail)
  all_goals exact bD
 ·obtain⟨r2,i2,o2,hi2,c2⟩:=hE i1 hi1
  obtain⟨r1,o1,d1⟩:=cR [69,86,84] ac;obtain⟨r,o,dn⟩:=aM 42 [r1,r2] (B:=B) (1+2*B) (by simp[o1.le hB1,o2]) (by simp;omega) av av;unfold ce at dn;refine⟨r,i2,o,hi2,?_⟩;refine wW Tryz.func220 ?_
  repeat'(first|refine y1 ?_|refine y2 ?_ ?_|refine y4 λh=>?_|refine ay c1 ?_|refine ay c2 ?_|refine an d1 ?_|(refine wX ?_;refine yy 27 (λk=>[nS ([r1,r2].getD k [])]) 1 dn rfl rfl rfl rfl (λ_ _=>rfl) (λkk jj zz hk hx=>cM (K:=[r1,r2]) hk hx) rfl bc rfl rfl rfl ?_)|refine y3 ?_|exact y5|fail)
  all_goals exact bD
theorem Gj (l:List Int) (hl:l.length<=20000000000000) (dep:Int) (h1: -10<=dep) (h2:dep<=0) (args:Nat) (ha:args<=100):eC l dep args 100:=by
 intro i hi;obtain⟨k,i1,hk,hi1,c1⟩:=ax l hl 16 ac ac i hi;by_cases k1:k=1\/k=6\/k=11
 ·obtain⟨r,i2,o,hi2,c2⟩:=mM l hl 0 ac ac args 1 ha ac ac (λh=>absurd h ac) i1 hi1
  refine⟨r,i2,o.le ac,hi2,?_⟩
  rcases k1 with rfl|rfl|rfl
  all_goals
   refine wW Tryz.func218 ?_
   repeat'(first|refine yA ?_|refine y2 ?_ ?_|refine y4 λh=>?_|refine ay c1 ?_|refine ay c2 ?_|exact y5|fail)
   all_goals first
    |exact bD
    |omega
    |exact al aa aa
    |exact aj aa aa
 by_cases k2:k=2\/k=7\/k=12
 ·obtain⟨r,i2,o,hi2,c2⟩:=qF l hl 1 ac i1 hi1
  refine⟨r,i2,o,hi2,?_⟩
  rcases k2 with rfl|rfl|rfl
  all_goals
   refine wW Tryz.func218 ?_
   repeat'(first|refine yA ?_|refine y2 ?_ ?_|refine y4 λh=>?_|refine ay c1 ?_|refine ay c2 ?_|exact y5|fail)
   all_goals first
    |exact bD
    |omega
    |exact al aa aa
    |exact aj aa aa
 by_cases k3:k=3\/k=8\/k=13
 ·obtain⟨m,i2,hm2,hi2,c2⟩:=ax l hl 3 ac ac i1 hi1
  obtain⟨r,o,d⟩:=nh 6 m [] aa ac;refine⟨r,i2,o.le ac,hi2,?_⟩
  rcases k3 with rfl|rfl|rfl
  all_goals
   refine wW Tryz.func218 ?_
   repeat'(first|refine yA ?_|refine y2 ?_ ?_|refine y4 λh=>?_|refine ay c1 ?_|refine ay c2 ?_|(refine wX ?_;refine oz d rfl ⟨ah _,ah _,ah _,VLe.s SLe.nil,trivial⟩ rfl rfl rfl ?_)|exact y5|fail)
   all_goals first
    |exact bD
    |omega
    |exact al aa aa
    |exact aj aa aa
 by_cases k4:k=4\/k=9\/k=14
 ·obtain⟨s,i2,hs,hi2,c2⟩:=k_ l hl i1 hi1
  obtain⟨r,o,d⟩:=cR s aa;refine⟨r,i2,o.le ac,hi2,?_⟩
  rcases k4 with rfl|rfl|rfl
  all_goals
   refine wW Tryz.func218 ?_
   repeat'(first|refine yA ?_|refine y2 ?_ ?_|refine y4 λh=>?_|refine ay c1 ?_|refine ay c2 ?_|refine an d ?_|exact y5|fail)
   all_goals first
    |exact bD
    |omega
    |exact al aa aa
    |exact aj aa aa
 by_cases k0:k=0\/k=5\/k=10\/k=15
 ·obtain⟨x,i2,hx,hi2,c2⟩:=m7 l hl i1 hi1
  obtain⟨r,o,d⟩:=dm x hx;refine⟨r,i2,o.le ac,hi2,?_⟩
  rcases k0 with rfl|rfl|rfl|rfl
  all_goals
   refine wW Tryz.func218 ?_
   repeat'(first|refine yA ?_|refine y2 ?_ ?_|refine y4 λh=>?_|refine ay c1 ?_|refine ay c2 ?_|refine an d ?_|exact y5|fail)
   all_goals first
    |exact bD
    |omega
    |exact al aa aa
    |exact aj aa aa
 omega
theorem uU (l:List Int) (hl:l.length<=20000000000000) (dep:Int) (h1:1<=dep) (h2:dep<=9) (args B:Nat) (ha:args<=100) (hB1:100<=B) (hB2:B<=30000)
 (hE:eC l (dep-1) args B) (hE2:0<dep-1->eC l (dep-1-1) args B):eC l dep args (2+3*B):=by
 intro i hi;have hd0: ¬dep<=0:=aa;obtain⟨k,i1,hk,hi1,c1⟩:=ax l hl 16 ac ac i hi;by_cases k1:k=1
 ·obtain⟨r,i2,o,hi2,c2⟩:=mM l hl 0 ac ac args 1 ha ac ac (λh=>absurd h ac) i1 hi1
  refine⟨r,i2,o.le aa,hi2,?_⟩;subst k1;refine wW Tryz.func218 ?_
  repeat'(first|refine yA ?_|refine y2 ?_ ?_|refine y4 λh=>?_|refine ay c1 ?_|refine ay c2 ?_|exact y5|fail)
  all_goals first
   |exact bD
   |omega
   |exact al aa aa
   |exact aj aa aa
 by_cases k2:k=2
 ·obtain⟨r,i2,o,hi2,c2⟩:=qF l hl 1 ac i1 hi1
  refine⟨r,i2,o.le aa,hi2,?_⟩;subst k2;refine wW Tryz.func218 ?_
  repeat'(first|refine yA ?_|refine y2 ?_ ?_|refine y4 λh=>?_|refine ay c1 ?_|refine ay c2 ?_|exact y5|fail)
  all_goals first
   |exact bD
   |omega
   |exact al aa aa
   |exact aj aa aa
 by_cases k3:k=3
 ·obtain⟨m,i2,hm2,hi2,c2⟩:=ax l hl 3 ac ac i1 hi1
  obtain⟨r,o,d⟩:=nh 6 m [] aa ac;refine⟨r,i2,o.le aa,hi2,?_⟩;subst k3;refine wW Tryz.func218 ?_
  repeat'(first|refine yA ?_|refine y2 ?_ ?_|refine y4 λh=>?_|refine ay c1 ?_|refine ay c2 ?_|(refine wX ?_;refine oz d rfl ⟨ah _,ah _,ah _,VLe.s SLe.nil,trivial⟩ rfl rfl rfl ?_)|exact y5|fail)
  all_goals first
   |exact bD
   |omega
   |exact al aa aa
   |exact aj aa aa
 by_cases k4:k=4
 ·obtain⟨s,i2,hs,hi2,c2⟩:=k_ l hl i1 hi1
  obtain⟨r,o,d⟩:=cR s aa;refine⟨r,i2,o.le aa,hi2,?_⟩;subst k4;refine wW Tryz.func218 ?_
  repeat'(first|refine yA ?_|refine y2 ?_ ?_|refine y4 λh=>?_|refine ay c1 ?_|refine ay c2 ?_|refine an d ?_|exact y5|fail)
  all_goals first
   |exact bD
   |omega
   |exact al aa aa
   |exact aj aa aa
 by_cases k5_6_7:k=5\/k=6\/k=7
 ·obtain⟨m,i2,hm2,hi2,c2⟩:=ax l hl 17 ac ac i1 hi1
  obtain⟨r1,i3,o1,hi3,c3⟩:=hE i2 hi2;obtain⟨r2,i4,o2,hi4,c4⟩:=hE i3 hi3;obtain⟨r,o,dn⟩:=aM (60+(m:Int)) [r1,r2] (B:=B) (2+3*B) (by simp[o1,o2]) (by first|(simp;done)|(simp;omega)) av (by first|(simp;done)|(simp;omega));refine⟨r,i4,o,hi4,?_⟩
  rcases k5_6_7 with rfl|rfl|rfl
  all_goals
   refine wW Tryz.func218 ?_
   repeat'(first|refine yA ?_|refine y2 ?_ ?_|refine y4 λh=>?_|refine ay c1 ?_|refine ay c2 ?_|refine ay c3 ?_|refine ay c4 ?_|refine wX (eS nS [] [r1,r2] dn ?_)|exact y5|fail)
   all_goals first
    |exact bD
    |omega
    |exact al aa aa
    |exact aj aa aa
 by_cases k8_9:k=8\/k=9
 ·obtain⟨m,i2,hm2,hi2,c2⟩:=ax l hl 8 ac ac i1 hi1
  obtain⟨r1,i3,o1,hi3,c3⟩:=hE i2 hi2;obtain⟨r,o,dn⟩:=aM (77+(m:Int)) [r1] (B:=B) (2+3*B) (by simp[o1]) (by first|(simp;done)|(simp;omega)) av (by first|(simp;done)|(simp;omega));refine⟨r,i3,o,hi3,?_⟩
  rcases k8_9 with rfl|rfl
  all_goals
   refine wW Tryz.func218 ?_
   repeat'(first|refine yA ?_|refine y2 ?_ ?_|refine y4 λh=>?_|refine ay c1 ?_|refine ay c2 ?_|refine ay c3 ?_|refine wX (eS nS [] [r1] dn ?_)|exact y5|fail)
   all_goals first
    |exact bD
    |omega
    |exact al aa aa
    |exact aj aa aa
 by_cases k10:k=10
 ·obtain⟨r1,i2,o1,hi2,c2⟩:=mM l hl (dep-1) aa aa args B ha aa aa hE2 i1 hi1
  obtain⟨r,o,dn⟩:=aM 85 [r1] (B:=1+2*B) (2+3*B) (by simp[o1]) (by first|(simp;done)|(simp;omega)) av (by first|(simp;done)|(simp;omega));refine⟨r,i2,o,hi2,?_⟩;subst k10;refine wW Tryz.func218 ?_
  repeat'(first|refine yA ?_|refine y2 ?_ ?_|refine y4 λh=>?_|refine ay c1 ?_|refine ay c2 ?_|refine wX (eS nS [] [r1] dn ?_)|exact y5|fail)
  all_goals first
   |exact bD
   |omega
   |exact al aa aa
   |exact aj aa aa
 by_cases k11:k=11
 ·obtain⟨r1,i2,o1,hi2,c2⟩:=mM l hl (dep-1) aa aa args B ha aa aa hE2 i1 hi1
  obtain⟨r,o,dn⟩:=aM 87 [r1] (B:=1+2*B) (2+3*B) (by simp[o1]) (by first|(simp;done)|(simp;omega)) av (by first|(simp;done)|(simp;omega));refine⟨r,i2,o,hi2,?_⟩;subst k11;refine wW Tryz.func218 ?_
  repeat'(first|refine yA ?_|refine y2 ?_ ?_|refine y4 λh=>?_|refine ay c1 ?_|refine ay c2 ?_|refine wX (eS nS [] [r1] dn ?_)|exact y5|fail)
  all_goals first
   |exact bD
   |omega
   |exact al aa aa
   |exact aj aa aa
 by_cases k12:k=12
 ·obtain⟨s,i2,hs,hi2,c2⟩:=k_ l hl i1 hi1
  obtain⟨r1,o1,d⟩:=cR s aa;obtain⟨r,o,dn⟩:=aM 86 [r1] (B:=1) 2 (by simp[o1]) av av av;refine⟨r,i2,o.le aa,hi2,?_⟩;subst k12;refine wW Tryz.func218 ?_
  repeat'(first|refine yA ?_|refine y2 ?_ ?_|refine y4 λh=>?_|refine ay c1 ?_|refine ay c2 ?_|refine an d ?_|refine wX (eS nS [] [r1] dn ?_)|exact y5|fail)
  all_goals first
   |exact bD
   |omega
   |exact al aa aa
   |exact aj aa aa
 by_cases k13:k=13
 ·obtain⟨r1,i2,o1,hi2,c2⟩:=hE i1 hi1
  obtain⟨r2,i3,o2,hi3,c3⟩:=hE i2 hi2;obtain⟨r3,i4,o3,hi4,c4⟩:=hE i3 hi3;obtain⟨r,o,dn⟩:=aM 88 [r1,r2,r3] (B:=B) (2+3*B) (by simp[o1,o2,o3]) (by first|(simp;done)|(simp;omega)) av (by first|(simp;done)|(simp;omega));refine⟨r,i4,o,hi4,?_⟩;subst k13;refine wW Tryz.func218 ?_
  repeat'(first|refine yA ?_|refine y2 ?_ ?_|refine y4 λh=>?_|refine ay c1 ?_|refine ay c2 ?_|refine ay c3 ?_|refine ay c4 ?_|refine wX (eS nS [] [r1,r2,r3] dn ?_)|exact y5|fail)
  all_goals first
   |exact bD
   |omega
   |exact al aa aa
   |exact aj aa aa
 by_cases k14:k=14
 ·obtain⟨r,i2,o,hi2,c2⟩:=BP l hl dep aa aa args B ha aa aa hE i1 hi1
  refine⟨r,i2,o.le aa,hi2,?_⟩;subst k14;refine wW Tryz.func218 ?_
  repeat'(first|refine yA ?_|refine y2 ?_ ?_|refine y4 λh=>?_|refine ay c1 ?_|refine ay c2 ?_|exact y5|fail)
  all_goals first
   |exact bD
   |omega
   |exact al aa aa
   |exact aj aa aa
 by_cases k15:k=15
 ·obtain⟨r,i2,o,hi2,c2⟩:=yY l hl dep aa aa args B ha aa aa hE i1 hi1
  refine⟨r,i2,o.le aa,hi2,?_⟩;subst k15;refine wW Tryz.func218 ?_
  repeat'(first|refine yA ?_|refine y2 ?_ ?_|refine y4 λh=>?_|refine ay c1 ?_|refine ay c2 ?_|exact y5|fail)
  all_goals first
   |exact bD
   |omega
   |exact al aa aa
   |exact aj aa aa
 by_cases k0:k=0
 ·obtain⟨x,i2,hx,hi2,c2⟩:=m7 l hl i1 hi1
  obtain⟨r,o,d⟩:=dm x hx;refine⟨r,i2,o.le aa,hi2,?_⟩;subst k0;refine wW Tryz.func218 ?_
  repeat'(first|refine yA ?_|refine y2 ?_ ?_|refine y4 λh=>?_|refine ay c1 ?_|refine ay c2 ?_|refine an d ?_|exact y5|fail)
  all_goals first
   |exact bD
   |omega
   |exact al aa aa
   |exact aj aa aa
 omega
theorem Gh (l:List Int) (hl:l.length<=20000000000000) (args:Nat) (ha:args<=100):∀ dep:Int,-10<=dep->dep<=3->eC l dep args 3000:=by
 have up:∀ {B C:Nat} {dep:Int},B<=C->eC l dep args B->eC l dep args C:=λhbc h i hi=>by
  obtain⟨r,i',o,h⟩:=h i hi;exact⟨r,i',o.le hbc,h⟩
 have e0:∀ dep:Int,-10<=dep->dep<=0->eC l dep args 100:=λdep h1 h2=>Gj l hl dep h1 h2 args ha
 have e1:eC l 1 args 302:=uU l hl 1 ac ac args 100 ha ac ac (e0 _ ac ac) (λh=>absurd h ac);have e2:eC l 2 args 908:=uU l hl 2 ac ac args 302 ha ac ac e1 (λ_=>up ac (e0 _ ac ac));have e3:eC l 3 args 2726:=uU l hl 3 ac ac args 908 ha ac ac e2 (λ_=>up ac e1);intro dep h1 h2;by_cases h:dep<=0
 ·exact up ac (e0 dep h1 h)
 ·rcases (aa:dep=1\/dep=2\/dep=3) with rfl|rfl|rfl
  ·exact up ac e1
  ·exact up ac e2
  ·exact up ac e3
