import Derived.Test.YtegjgpldfgjoiaaGreatDoorCnD49
import Derived.Test.YtegjgpldfgjoiaaGreatDoorCnD46
import Derived.Test.YtegjgpldfgjoiaaGreatDoorCnD48
import Derived.Test.YtegjgpldfgjoiaaGreatDoorCnD30
set_option linter.all false
set_option maxHeartbeats 40000000
set_option maxRecDepth 100000
namespace Go.Proofs.YtegjgpldfgjoiaaGreatDoor
open Go Ab
section
variable {n:Nat}
abbrev EO (g:Nat) (D:List Nd):Option Bl:=g9 49 (g+1) 4 (D.flatMap ndC)
theorem HC (r:List Nd):(r.flatMap ndC).all cz=true:=by
 induction r with
 |nil=>rfl
 |cons x r ih=>rw[Z0g,Z1g,ih];rfl
theorem HD {r:List Nd} (h:r≠[]):r.flatMap ndC≠[]:=by
 cases r with
 |nil=>exact absurd rfl h
 |cons x r=>simp[ndC]
def DZ:Nat->Nat
 |0=>0
 |n+1=>DZ n+200000000000
theorem wP (h:n<=5):DZ n<=1000000000000:=by
 match n,h with
 |0,_=>decide
 |1,_=>decide
 |2,_=>decide
 |3,_=>decide
 |4,_=>decide
 |5,_=>decide
structure PlOK (n:Nat) (D:List Nd):Prop where
 len:D.length<=DZ n
 wf:∀ x∈D,wL x.str<=1000/\0<=x.int
 op:∀ x∈D,x.op≠10/\x.op≠16/\x.op≠17
 dc:q8 D<=DZ n
theorem PlOK.app {D r:List Nd} (h:PlOK n D) (o:OKr 200000000000 r) (ho:∀ k,k<r.length->(r.getD k dN).op≠10/\(r.getD k dN).op≠16/\(r.getD k dN).op≠17):PlOK (n+1) (D++r):=by
 have h1:=h.len;have h2:=o.len;have h3:=h.dc;have h4:=o.dc;refine⟨by rw[Z03];exact Nat.add_le_add h1 h2,λx hx=>?_,λx hx=>?_,by rw[kx];exact Nat.add_le_add h3 h4⟩
 ·rcases Z0w.1 hx with hx|hx
  ·exact h.wf x hx
  ·exact o.wf x hx
 ·rcases Z0w.1 hx with hx|hx
  ·exact h.op x hx
  ·obtain⟨k,hk,rfl⟩:=Z2r.1 hx
   have:=ho k hk
   rwa [Z00,Z01 hk] at this
theorem PlOK.succ {D:List Nd} (h:PlOK n D):PlOK (n+1) D:=⟨Z1z h.len (Z1o ..),h.wf,h.op,Z1z h.dc (Z1o ..)⟩
theorem PlOK.zero:PlOK 0 []:=⟨Z02 _,λx hx=>(by cases hx),λx hx=>(by cases hx),Z02 _⟩
section
variable {P:Program} {b:Nat} {env:List V} {n:Nat} {L:Hp} {R:Post}
theorem Ex.nrow {c:Code} (t i:Nat) (D:List Nd) (ht:env.getD t .undef=.s (.row i (i+1) D.length)) (hl:lk L i=EO i D) {env':List V} (he:env.set t (ao D)=env') {L':Hp} (hL:put L i none=L') (k:Ex P b c env' n L' R):Ex P b c env n L R:=by
 cases D with
 |nil=>
  subst hL;refine fN t _ (by rw[ht];exact VLe.s SLe.row0) he (Ex.subF (λj bl hj=>?_) k);rw[aE] at hj;split at hj
  ·cases hj
  ·exact⟨bl,hj,rfl,λ_ _ _ h=>h⟩
 |cons x D=>
  refine Ex.fz t (λk=>ndC ((x::D).getD k dN)) 4 (bl:={cells:=(x::D).flatMap ndC,ty:=49,more:=true,sym:=true,flat:=true,gh:=some (i+1,4)}) (i:=i) (N:=(x::D).length) (by rw[ht];rfl) hl rfl rfl (λ_ _=>rfl) (λk j y hk hy=>qg hk hy) he hL k
end
theorem F2 (p:List Nd) (hw:tX p) (hI:re p) (hst:∀ i,(p.getD i dN).str≠[95,83,66]/\(p.getD i dN).str≠[95,71,80,69]) (hop:∀ x∈p,x.op≠10/\x.op≠16/\x.op≠17) (hdc:q8 p<=1000000000000):
 ∃ G:Dgs,FQ 23 [ao p] 0 [] (tf G) 0 []/\(G.length=0->∃ (E:List Ent) (S:List Dc),E.length=3+S.length/\E.length<=1024/\S.length<=2048/\FQ 24 [ao p] 0 [] (dcF S) 0 []/\
   FQ 25 [.s (.ptr (some (0,0))),ao p] 4 (tT E0 []) (.tup [.s (.int .i64 1),.s (.int .i64 0)]) 7 (spN E [⟨p,[]⟩])/\
   ∀ i,i<S.length->(E.getD (i+3) eZ).path=(S.getD i dD).path/\(E.getD (i+3) eZ).op=(S.getD i dD).op/\(E.getD (i+3) eZ).node=((S.getD i dD).node:Int)):=by
 have hwN:mG p:=λx hx=>by have:=hw x hx;omega
 cases hv:dX p with
 |false=>exact⟨[(0,1)],DV p hw hv,λh=>by cases h⟩
 |true=>
  obtain⟨hp,t,ha,hV,hd,hs⟩:=jG hv;refine⟨zF p t,BL hp hw hI hv ha hV hs,λhG=>?_⟩;have hG:=Z15 hG
  have hno:∀ i,i<t.size->∀ c,1<=c->c<=10->(B7 p t i).getD c false=false:=λi hi c c1 c2=>by
   cases e:(B7 p t i).getD c false with
   |false=>rfl
   |true=>
    exfalso;have:(i,c)∈zF p t:=Z2h.2 ⟨i,Z29.2 hi,Z1d.2 ⟨c,Z2d.2 ⟨Z20.2 ⟨c1,aa⟩,e⟩,rfl⟩⟩;rw[hG] at this;cases this
  have hbad:∀ i,i<t.size->gM p t i=false:=λi hi=>hno i hi 2 aa aa
  have hdup:∀ i,i<t.size->jf p t i=false:=λi hi=>hno i hi 3 aa aa
  have hops:∀ i,i<t.size->(p.getD i dN).op≠10/\(p.getD i dN).op≠16/\(p.getD i dN).op≠17:=λi hi=>hop _ (by
   rw[Z00,Z01 (aa:i<p.length)];exact Z0s _)
  obtain⟨r1,r2,r3⟩:=DP (num:=1+(([]:List Tb).length:Int)) ha hV hs hops hbad hdup hst hdc;have hdl:=Bz hp hw hv ha hV hs;have hG0:=zo hp ha hV hs;have hck:FQ 65 [ao p] 0 [] (tf (ew (kD p t))) 0 []:=pw p hwN hI hv hp t ha hV hs
  have h6:C6 (ew (kD p t)):=λd hd=>by
   have:=(Dd ha hV hs d).1 hd;rw[hG] at this;cases this
  have H:PrO p:=⟨hp,hwN,hI,λj hj=>BR (GB h6) j hj,λj hj=>by
   obtain⟨sl,h1,h2⟩:=cn ha hV (Z08 _) (aa:j<0+t.size)
   exact uy h1 h2⟩
  have hen:FQ 68 [ao p] 0 [] (.s (.frz (λk=>[.int .i64 (((cc t).getD k 0:Nat):Int)]) 1 (cc t).length)) 0 []:=by
   rcases Z21 p.length with e|e
   ·obtain rfl:=Z15 e
    cases t with
    |nil=>exact Bb
    |cons x k n=>simp only[Fo.size,Z0e] at hs;omega
   ·exact Bc p hp e t ha hV hs
  have hy:=λv n' L'=>Ao p H _ hG0 hck h6 t ha hV hs (s_ ha hV hs) hen E0 [] ac EG E8 _ rfl _ rfl v n' L'
  have hcl:=Bx ha hs hdc (Z02 t.size);have hsl:=nP (p:=p) (t:=t) t.size;generalize gY p t t.size=S at*;change (aY p (1+(([]:List Tb).length:Int)) false t 0 ⟨true,0,[]⟩ E0 []).2.2=0 at r1;change (aY p (1+(([]:List Tb).length:Int)) false t 0 ⟨true,0,[]⟩ E0 []).2.1=[] at r2;change (aY p (1+(([]:List Tb).length:Int)) false t 0 ⟨true,0,[]⟩ E0 []).1.map kyE=_ at r3;generalize aY p (1+(([]:List Tb).length:Int)) false t 0 ⟨true,0,[]⟩ E0 []=D at r1 r2 r3 hy;obtain⟨E,fs,e⟩:=D;simp only at r1 r2 r3;subst r1;subst r2;have hl3:(E0.map kyE).length=3:=rfl
  have hEl:E.length=3+S.length:=by
   have:=congrArg List.length r3;rw[Z03,Z0z,Z0z,Z0z] at this;exact this
  refine⟨E,S,hEl,aa,aa,hdl,hy _ _ _ (λh=>absurd rfl h) (λ_ h=>absurd rfl h) (λ_ _=>⟨rfl,rfl,rfl⟩),λi hi=>?_⟩
  have e1:(E.map kyE)[i+3]? =some (kyE (E.getD (i+3) eZ)):=by
   rw[Z0t,Z00,Z01 (aa:i+3<E.length)];rfl
  have e2:(E0.map kyE++S.map kyD)[i+3]? =some (kyD (S.getD i dD)):=by
   rw[Z1f aa,hl3,Z4t,Z0t,Z00,Z01 hi];rfl
  rw[r3,e2] at e1;have h:=Z1c e1;simp only[kyE,kyD,Z0j] at h;exact⟨h.1.symm,h.2.1.symm,h.2.2.symm⟩
theorem Gv (l:List Int) (hDE:ou l 1 200000000000) (haw:FQ 12 [] 0 [] (bV true) 0 []):FQ 4 [.s (q9 l)] 0 [] (bV true) 0 []:=by
 have hnew:=HE l;have hn:=EP;have hsz:(Tryz.prog.types[49]).size=4:=bd;have hby:(Tryz.prog.types[49]).bytes=40:=bd;refine wW Tryz.func4 ?_
 repeat'(first|refine yA ?_|refine y2 ?_ ?_|refine y4 λh=>?_|refine wX (eO [] hnew ?_)|exact y5|fail)
 refine fN 4 (.s (.row 1 2 0)) (VLe.s SLe.nilrow) rfl (Ex.upN (n':=3) aa ?_)
 refine cD (σ:=Nat×Nat×List Nd) (λs=>[(4,.s (.row 1 2 s.2.2.length)),(5,nI s.1)]) (λs=>[(0,some {cells:=[q9 l,.int .i64 (s.2.1:Int)],ty:=97}),(1,EO 1 s.2.2)])
  (λs=>s.1<=5/\s.2.1<=l.length/\PlOK s.1 s.2.2) (λs=>5-s.1) (0,0,[]) rfl (λ_=>rfl) ⟨by simp only;omega,Z08 _,PlOK.zero⟩ bc ⟨rfl,trivial⟩ ?_
 rintro⟨i,j,D⟩ ⟨hi,hj,hD⟩;simp only at hi hj hD |-;have hDl:=Z1z hD.len (wP hi);by_cases hlt:i<5
 ·obtain⟨r,j',o,hj',c⟩:=hDE j hj
  have hrl:=o.len;have hr1:1<=r.length:=Z1s.2 o.ne
  repeat'(first|refine yA ?_|refine y2 ?_ ?_|refine y4 λh=>?_|refine ay c ?_|exact y5|fail)
  refine cD (σ:=Nat×Bool) (λq=>[(7,.s (.bool q.2)),(8,nI q.1)]) (λ_=>[(0,some {cells:=[q9 l,.int .i64 (j':Int)],ty:=97}),(1,EO 1 D)])
   (λq=>q.1<=r.length/\(q.2=true->∀ k,k<q.1->(r.getD k dN).op≠10/\(r.getD k dN).op≠16/\(r.getD k dN).op≠17)) (λq=>r.length-q.1) (0,true) rfl (λ_=>rfl) ⟨Z08 _,λ_ k hk=>absurd hk (Z1m _)⟩ bc ⟨rfl,iN rfl trivial⟩ ?_
  rintro⟨k,b⟩ ⟨hk,hb⟩;simp only at hk hb |-;by_cases hkl:k<r.length
  ·have good:∀ op:Int,op≠10->op≠16->op≠17->(r.getD k dN).op=op->b=true->∀ m,m<k+1->(r.getD m dN).op≠10/\(r.getD m dN).op≠16/\(r.getD m dN).op≠17:=λop h1 h2 h3 e hbt m hm=>by
    rcases Z0a m k with h|h
    ·exact hb hbt m h
    ·obtain rfl:m=k:=aa
     rw[e];exact⟨h1,h2,h3⟩
   cases b with
   |false=>
    repeat'(first|refine yA ?_|refine y2 ?_ ?_|refine y4 λh=>?_|exact y5|fail)
    all_goals try exact y7
    all_goals
     refine dT (k+1,false) ⟨by simp only;omega,λe=>by cases e⟩ (by simp only;omega) rfl ⟨ah _,bp (congrArg nI (by push_cast;omega)),trivial⟩ ⟨rfl,iN rfl trivial⟩ rfl ?_ ac
     unfold EO;generalize List.flatMap _ _=cg;cases cg<;>rfl
   |true=>
    obtain⟨op,hop⟩:∃ op,(r.getD k dN).op=op:=⟨_,rfl⟩
    by_cases hbad:op=10\/op=16\/op=17
    ·rcases hbad with e|e|e
     all_goals
      subst e
      repeat'(first|refine yA ?_|refine y2 ?_ ?_|refine y4 λh=>?_|exact y5|fail)
      all_goals try exact y7
      all_goals
       refine dT (k+1,false) ⟨by simp only;omega,λe=>by cases e⟩ (by simp only;omega) rfl ⟨ah _,bp (congrArg nI (by push_cast;omega)),trivial⟩ ⟨rfl,iN rfl trivial⟩ rfl ?_ ac
       unfold EO;generalize List.flatMap _ _=cg;cases cg<;>rfl
    ·
     repeat'(first|refine yA ?_|refine y2 ?_ ?_|refine y4 λh=>?_|exact y5|fail)
     all_goals try exact y7
     all_goals
      refine dT (k+1,true) ⟨by simp only;omega,λ_=>good op aa aa aa hop rfl⟩ (by simp only;omega) rfl ⟨ah _,bp (congrArg nI (by push_cast;omega)),trivial⟩ ⟨rfl,iN rfl trivial⟩ rfl ?_ ac
      unfold EO;generalize List.flatMap _ _=cg;cases cg<;>rfl
  ·obtain rfl:k=r.length:=aa
   cases b with
   |false=>
    repeat'(first|refine yA ?_|refine y2 ?_ ?_|refine y4 λh=>?_|exact y5|fail)
    all_goals try exact y7
    all_goals
     refine dT (i+1,j',D) ⟨by simp only;omega,hj',hD.succ⟩ (by simp only;omega) rfl ⟨ah _,bp (congrArg nI (by push_cast;omega)),trivial⟩ ⟨rfl,iN rfl trivial⟩ rfl ?_ ac
     unfold EO;generalize List.flatMap _ _=cg;cases cg<;>rfl
   |true=>
    have hDr:=hD.app o λm hm=>hb rfl m hm
    repeat'(first|refine yA ?_|refine y2 ?_ ?_|refine y4 λh=>?_|exact y5|fail)
    refine jC (i:=1) (g:=2) (m:=D.length) (w:=4) (cs:=D.flatMap ndC) (foot:=[]) (k:=r.length) (add:=eq (λk=>ndC (r.getD k dN)) r.length) rfl rfl (by rw[qe]) rfl rfl rfl rfl rfl rfl rfl hsz ac rfl ?_ hr1 (by rw[eI];exact HD o.ne) (by rw[eI];exact HC _) (by rw[hby];omega) aa rfl ?_
    ·trivial
    repeat'(first|refine yA ?_|refine y2 ?_ ?_|refine y4 λh=>?_|exact y5|fail)
    all_goals try exact y7
    refine fq (i+1,j',D++r) ⟨by simp only;omega,hj',hDr⟩ (by simp only;omega) [0,3,4] rfl ?_ ?_ ?_
    ·repeat' (first|exact ah _|exact cT _|exact Z0o|exact bp (congrArg nI (by push_cast;omega))|(refine bp (congrArg V.s (?_:S.row 3 4 _=S.row 3 4 _));simp;done)|refine⟨?_,?_⟩)
    ·refine⟨rfl,bN ?_ trivial⟩
     rw[Z0r,<-eI r];rfl
    ·unfold EO;generalize List.flatMap _ _=cg;cases cg<;>rfl
 ·refine Ex.nrow 4 1 D rfl rfl rfl rfl ?_
  have hdc:=Z1z hD.dc (wP hi)
  obtain⟨G,hck,hok⟩:=F2 D (λx hx=>by have:=(hD.wf x hx).1;have:=Eu x.str;omega) (λx hx=>(hD.wf x hx).2) (λm=>by
   have hm:wL (D.getD m dN).str<=1000:=by
    rcases Z0a m D.length with h|h
    ·rw[Z00,Z01 h];exact (hD.wf _ (Z0s h)).1
    ·rw[Z00,Z0b h];decide
   constructor
   ·intro e;rw[e] at hm;exact absurd hm ac
   ·intro e;rw[e] at hm;exact absurd hm ac) hD.op hdc
  clear hD hdc;by_cases hG:G.length=0
  ·obtain⟨E,S,hE,hE1,hS,hdl,hL,hent⟩:=hok hG
   have ho:=xE E [⟨D,[]⟩] hE1
   repeat'(first|refine yA ?_|refine y2 ?_ ?_|refine y4 λh=>?_|refine an hck ?_|refine an hdl ?_|refine bt haw ?_|refine wX (eO [] hn ?_)|(refine wX ?_;refine ot [3,4,5,6] hL rfl rfl rfl rfl rfl bc mF rfl rfl (wr:=[(3,some (jb 7 8 9 (E.length:Nat) (1+(([⟨D,[]⟩]:List Tb).length:Int)))),(4,none),(5,none),(6,none),(7,some (oB E)),(8,some (pB E)),(9,some (tB [⟨D,[]⟩]))]) (by rfl) ?_)|(refine wX ?_;refine ja [3,7,8,9] ho ?_ (wr:=[(3,some (jb 7 8 9 (E.length:Nat) (1+(([⟨D,[]⟩]:List Tb).length:Int)))),(7,some (oB E)),(8,some (pB E)),(9,some (tB [⟨D,[]⟩])),(10,gQ 10 (qr 0 E.length))]))|exact y5|fail)
   all_goals try exact y7
   refine cD (σ:=Nat) (λk=>[(13,nI k)]) (λ_=>[(3,some (jb 7 8 9 (E.length:Nat) (1+(([⟨D,[]⟩]:List Tb).length:Int)))),(7,some (oB E)),(8,some (pB E)),(9,some (tB [⟨D,[]⟩]))]) (λk=>k<=S.length) (λk=>S.length-k) 0 rfl (λ_=>rfl) (Z08 _) bc ⟨rfl,rfl,rfl,rfl,trivial⟩ ?_;intro k hk;by_cases hkl:k<S.length
   ·obtain⟨h1,h2,h3⟩:=hent k hkl
    obtain⟨X,hX⟩:∃ X,E.getD (k+3) eZ=X:=⟨_,rfl⟩
    have hob:=Hx E [⟨D,[]⟩] (k+3) aa X hX;rw[hX] at h1 h2 h3
    repeat'(first|refine yA ?_|refine y2 ?_ ?_|refine y4 λh=>?_|(refine wX ?_;refine eO [3,7,8,9] hob ?_ (hle:=by exact⟨ah _,bp (congrArg nI (by push_cast;omega)),trivial⟩))|exact y5|fail)
    all_goals try exact y7
    all_goals exact dT (k+1) aa aa rfl ⟨bp (congrArg nI (by push_cast;omega)),trivial⟩ ⟨rfl,rfl,rfl,rfl,trivial⟩ rfl rfl ac
   ·
    repeat'(first|refine y1 ?_|refine y2 ?_ ?_|refine y4 λh=>?_|refine cJ (.inl rfl) rfl ?_|refine y3 ?_|exact y5|fail)
    all_goals try first
     |omega
     |rfl
  ·
   repeat'(first|refine y1 ?_|refine y2 ?_ ?_|refine y4 λh=>?_|refine an hck ?_|refine bt haw ?_|refine cJ (.inl rfl) rfl ?_|refine y3 ?_|exact y5|fail)
   all_goals try first
    |omega
    |rfl
theorem Gw (l:List Int) (hl:l.length<=20000000000000):FQ 4 [.s (q9 l)] 0 [] (bV true) 0 []:=Gv l (Gr l hl) D_
end
