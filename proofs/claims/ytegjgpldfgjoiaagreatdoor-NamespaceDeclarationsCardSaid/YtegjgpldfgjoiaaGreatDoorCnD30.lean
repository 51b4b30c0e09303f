import Derived.Test.YtegjgpldfgjoiaaGreatDoorCnD27
set_option linter.all false
set_option maxHeartbeats 40000000
set_option maxRecDepth 100000
namespace Go.Proofs.YtegjgpldfgjoiaaGreatDoor
open Go Ab
inductive FiT (l:List Int):List By->Nat->List (List Nd)->Nat->Prop
 |nil (i:Nat):FiT l [] i [] i
 |skip {s:By} {ns:List By} {i i1 i2 i3 i' m q:Nat} {r1 r2 r3 r4 r5:List Nd} {K:List (List Nd)} (hq:q<20) (hm:m<12) (c:FQ 18 [cP,nI (3:Nat)] 1 (b_ l i) (nI (2:Nat)) 1 (b_ l i1)) (c2:FQ 18 [cP,nI (12:Nat)] 1 (b_ l i1) (nI m) 1 (b_ l i2))
  (d1:FQ 58 [.s (.int .u64 m)] 0 [] (ao r1) 0 []) (d2:FQ 55 [nI 19,.s (ce [r1])] 0 [] (ao r2) 0 []) (d3:FQ 56 [sV s] 0 [] (ao r3) 0 []) (c3:FQ 18 [cP,nI (20:Nat)] 1 (b_ l i2) (nI q) 1 (b_ l i3))
  (d4:FQ 58 [.s (.int .u64 (1+(q:Int)))] 0 [] (ao r4) 0 []) (d5:FQ 55 [nI 18,.s (ce [r3,r4])] 0 [] (ao r5) 0 []) (t:FiT l ns i3 K i'):FiT l (s::ns) i (r2::r5::K) i'
 |unit {s:By} {ns:List By} {i i2 i3 i' k q:Nat} {r3 r4 r5:List Nd} {K:List (List Nd)} (hq:q<20) (hk: ¬(k:Int)=2) (c:FQ 18 [cP,nI (3:Nat)] 1 (b_ l i) (nI k) 1 (b_ l i2)) (d3:FQ 56 [sV s] 0 [] (ao r3) 0 []) (c3:FQ 18 [cP,nI (20:Nat)] 1 (b_ l i2) (nI q) 1 (b_ l i3))
  (d4:FQ 58 [.s (.int .u64 (1+(q:Int)))] 0 [] (ao r4) 0 []) (d5:FQ 55 [nI 18,.s (ce [r3,r4])] 0 [] (ao r5) 0 []) (t:FiT l ns i3 K i'):FiT l (s::ns) i (r5::K) i'
theorem Gg {l:List Int} {ns:List By} {i i':Nat} {K:List (List Nd)} (h:FiT l ns i K i'):K.length<=2*ns.length:=by
 induction h with
 |nil i=>simp
 |skip _ _ _ _ _ _ _ _ _ _ _ ih=>simp;omega
 |unit _ _ _ _ _ _ _ _ ih=>simp;omega
theorem Gf (l:List Int) (hl:l.length<=20000000000000):∀ (ns:List By) (i:Nat),i<=l.length->(∀ s∈ns,wL s<=1000)->∃ K i',FiT l ns i K i'/\i'<=l.length/\∀ r∈K,OKr 1000000003 r
 |[],i,hi,_=>⟨[],i,.nil i,hi,λr hr=>by cases hr⟩
 |s::ns,i,hi,hs=>by
  obtain⟨k,i1,hk,hi1,c⟩:=ax l hl 3 ac ac i hi;obtain⟨r3,o3,d3⟩:=cR s (hs s (Z17 ..));by_cases h2:k=2
  ·subst h2
   obtain⟨m,i2,hm,hi2,c2⟩:=ax l hl 12 ac ac i1 hi1;obtain⟨r1,o1,d1⟩:=dm m aa;obtain⟨r2,o2,d2⟩:=aM 19 [r1] (B:=1) 1000000003 (by simp[o1]) av av av;obtain⟨q,i3,hq,hi3,c3⟩:=ax l hl 20 ac ac i2 hi2;obtain⟨r4,o4,d4⟩:=dm (1+(q:Int)) aa;obtain⟨r5,o5,d5⟩:=aM 18 [r3,r4] (B:=1) 1000000003 (by simp[o3,o4]) av av av
   obtain⟨K,i',h1,h2,h4⟩:=Gf l hl ns i3 hi3 λx hx=>hs x (Z0y _ hx)
   refine⟨r2::r5::K,i',.skip hq hm c c2 d1 d2 d3 c3 d4 d5 h1,h2,λx hx=>?_⟩
   rcases Z0h.1 hx with rfl|hx
   ·exact o2
   ·rcases Z0h.1 hx with rfl|hx
    ·exact o5
    ·exact h4 x hx
  ·obtain⟨q,i3,hq,hi3,c3⟩:=ax l hl 20 ac ac i1 hi1
   obtain⟨r4,o4,d4⟩:=dm (1+(q:Int)) aa;obtain⟨r5,o5,d5⟩:=aM 18 [r3,r4] (B:=1) 1000000003 (by simp[o3,o4]) av av av
   obtain⟨K,i',h1,h2,h4⟩:=Gf l hl ns i3 hi3 λx hx=>hs x (Z0y _ hx)
   refine⟨r5::K,i',.unit hq aa c d3 c3 d4 d5 h1,h2,λx hx=>?_⟩
   rcases Z0h.1 hx with rfl|hx
   ·exact o5
   ·exact h4 x hx
theorem s5 (l:List Int) (hl:l.length<=20000000000000) (names:List By) (hn:names.length<=1) (hs:∀ s∈names,wL s<=1000) (idx:Bool) (wide:Nat) (hw:wide=0\/wide=2) (i:Nat) (hi:i<=l.length):
 ∃ (r:List Nd) (i':Nat),OKr 11000000000 r/\i'<=l.length/\FQ 61 [cP,.s (aR names),bV idx,nI wide] 1 (b_ l i) (ao r) 1 (b_ l i'):=by
 obtain⟨K,i1,hB,hi1,hK⟩:=Gf l hl names i hi hs;have hKl:=Gg hB;obtain⟨k,i2,hk,hi2,c2⟩:=ax l hl (wide+1) aa aa i1 hi1;obtain⟨m,i3,hm3,hi3,c3⟩:=ax l hl 3 ac ac i2 hi2
 obtain⟨wd,hwd0,hwd⟩:∃ w:Int,0<=w/\w=(if k=0 then 1 else if k=1 then 2 else 4):=⟨_,by split<;>(try split)<;>decide,rfl⟩
 obtain⟨r1,o1,d1⟩:=dm wd hwd0;obtain⟨r2,o2,d2⟩:=dm m aa;obtain⟨rb,ob,db⟩:=aM 4 K (B:=1000000003) 2100000000 hK aa aa aa;obtain⟨f1,p1,e1⟩:=cR [70,49] ac;obtain⟨f2,p2,e2⟩:=cR [70,50] ac;obtain⟨g1,q1,e3⟩:=cR [82,49] ac;obtain⟨ra,oa,da⟩:=aM 17 [f1,f2,r1,r2,rb] (B:=2100000000) 11000000000 (by simp[p1.le,p2.le,o1.le,o2.le,ob]) av av av;obtain⟨rc,oc,dc⟩:=aM 16 [g1,r1,r2,rb] (B:=2100000000) 11000000000 (by simp[q1.le,o1.le,o2.le,ob]) av av av;unfold ce at da dc db;refine⟨if idx then ra else rc,i3,by cases idx<;>assumption,hi3,?_⟩;unfold aR;have hsz:(Tryz.prog.types[32]).size=1:=bd;have hby:(Tryz.prog.types[32]).bytes=24:=bd;refine wW Tryz.func61 ?_
 repeat'(first|refine yA ?_|refine y2 ?_ ?_|refine y4 λh=>?_|exact y5|fail)
 refine fN 9 (.s (.row 1 2 0)) (VLe.s SLe.nilrow) rfl (Ex.upN (n':=3) aa ?_)
 refine cD (σ:=List By×Nat×Nat×List (List Nd)) (λs=>[(9,.s (.row 1 2 s.2.2.2.length)),(10,nI s.2.1)]) (λs=>[(0,some {cells:=[q9 l,.int .i64 (s.2.2.1:Int)],ty:=97}),(1,kg 1 s.2.2.2)])
  (λs=>names.drop s.2.1=s.1/\s.2.1<=names.length/\∃ R,FiT l s.1 s.2.2.1 R i1/\s.2.2.2++R=K) (λs=>s.1.length) (names,0,i,[]) rfl (λ_=>rfl) ⟨rfl,Z08 _,K,hB,rfl⟩ bc ⟨rfl,trivial⟩ ?_
 rintro⟨rem,j,ci,D⟩ ⟨hj,hjl,R,hR,hD⟩;simp only at hj hjl hR hD |-
 have hDK:D.length+R.length<=4:=by rw[<-Z03,hD];omega
 cases hR with
 |nil=>
  have hj2: ¬j<names.length:=λh=>by rw[Z0k h] at hj;cases hj
  rw[Z0u] at hD;subst hD
  rcases hw with rfl|rfl
  ·obtain rfl:k=0:=aa
   subst hwd;cases idx
   all_goals
    cases D with
    |nil=>
     repeat'(first|refine y1 ?_|refine y2 ?_ ?_|refine y4 λh=>?_|refine ay c2 ?_|refine ay c3 ?_|refine an d1 ?_|refine an d2 ?_|refine an e1 ?_|refine an e2 ?_|refine an e3 ?_|(refine wX ?_;refine oz db rfl ⟨ah _,VLe.s SLe.row0,trivial⟩ rfl rfl rfl ?_)|refine wX (eS nS [] [f1,f2,r1,r2,rb] da ?_)|refine wX (eS nS [] [g1,r1,r2,rb] dc ?_)|exact al ac ac|exact aj ac ac|refine y3 ?_|exact y5|fail)
     all_goals first
      |exact bD
      |omega
      |exact al aa aa
      |exact aj aa aa
    |cons x D=>
     repeat'(first|refine y1 ?_|refine y2 ?_ ?_|refine y4 λh=>?_|refine ay c2 ?_|refine ay c3 ?_|refine an d1 ?_|refine an d2 ?_|refine an e1 ?_|refine an e2 ?_|refine an e3 ?_|(refine wX ?_;refine eS nS [] (x::D) db ?_)|refine wX (eS nS [] [f1,f2,r1,r2,rb] da ?_)|refine wX (eS nS [] [g1,r1,r2,rb] dc ?_)|exact al ac ac|exact aj ac ac|refine y3 ?_|exact y5|fail)
     all_goals first
      |exact bD
      |omega
      |exact al aa aa
      |exact aj aa aa
  ·rcases (aa:k=0\/k=1\/k=2) with rfl|rfl|rfl
   all_goals
    subst hwd;cases idx
    all_goals
     cases D with
     |nil=>
      repeat'(first|refine y1 ?_|refine y2 ?_ ?_|refine y4 λh=>?_|refine ay c2 ?_|refine ay c3 ?_|refine an d1 ?_|refine an d2 ?_|refine an e1 ?_|refine an e2 ?_|refine an e3 ?_|(refine wX ?_;refine oz db rfl ⟨ah _,VLe.s SLe.row0,trivial⟩ rfl rfl rfl ?_)|refine wX (eS nS [] [f1,f2,r1,r2,rb] da ?_)|refine wX (eS nS [] [g1,r1,r2,rb] dc ?_)|exact al ac ac|exact aj ac ac|refine y3 ?_|exact y5|fail)
      all_goals first
       |exact bD
       |omega
       |exact al aa aa
       |exact aj aa aa
     |cons x D=>
      repeat'(first|refine y1 ?_|refine y2 ?_ ?_|refine y4 λh=>?_|refine ay c2 ?_|refine ay c3 ?_|refine an d1 ?_|refine an d2 ?_|refine an e1 ?_|refine an e2 ?_|refine an e3 ?_|(refine wX ?_;refine eS nS [] (x::D) db ?_)|refine wX (eS nS [] [f1,f2,r1,r2,rb] da ?_)|refine wX (eS nS [] [g1,r1,r2,rb] dc ?_)|exact al ac ac|exact aj ac ac|refine y3 ?_|exact y5|fail)
      all_goals first
       |exact bD
       |omega
       |exact al aa aa
       |exact aj aa aa
 | @skip s ns _ j1 j2 j3 _ m' q r1' r2' r3' r4' r5' R' hq hm' c cc2 dd1 dd2 dd3 cc3 dd4 dd5 t=>
   have hjl2:j<names.length:=by
    rcases Z0a j names.length with h|h
    ·exact h
    ·rw[Z10 h] at hj;cases hj
   have hjs:names.drop (j+1)=ns/\names.getD j []=s:=by
    rw[Z0k hjl2] at hj
    injection hj with a b
    exact⟨b,by rw[Z00,Z01 hjl2];exact a⟩
   simp only[Z04] at hDK;unfold ce at dd2 dd5;rw[<-hjs.2] at dd3
   repeat'(first|refine y1 ?_|refine y2 ?_ ?_|refine y4 λh=>?_|refine ay c ?_|refine ay cc2 ?_|refine ay cc3 ?_|refine an dd1 ?_|refine an dd4 ?_|refine an dd3 ?_|refine wX (eS nS [] [r1'] dd2 ?_)|refine wX (eS nS [] [r3',r4'] dd5 ?_)|refine jC (i:=1) (g:=2) (m:=D.length) (w:=1) (cs:=D.map λr=>nS r) (foot:=[4]) (k:=1) (add:=[nS r2']) rfl rfl av rfl rfl rfl rfl rfl rfl rfl hsz ac rfl ⟨Z02 _,rfl⟩ ac av rfl (by rw[hby];omega) aa rfl ?_|refine jC (i:=5) (g:=6) (m:=D.length+1) (w:=1) (cs:=(D.map λr=>nS r)++[nS r2']) (foot:=[8]) (k:=1) (add:=[nS r5']) rfl rfl av rfl rfl rfl rfl rfl rfl rfl hsz ac rfl ⟨Z02 _,rfl⟩ ac av rfl (by rw[hby];omega) aa rfl ?_|refine y3 ?_|exact y5|fail)
   all_goals try first
    |exact aj (by push_cast;omega) (by push_cast;omega)
    |omega
   refine fq (ns,j+1,j3,D++[r2',r5']) ⟨hjs.1,hjl2,R',t,by simpa using hD⟩ (by first|(simp only;omega)|(simp only[Z04];omega)) [0,9,10] rfl ?_ ?_ ?_
   ·repeat' (first|exact ah _|exact cT _|exact Z0o|exact bp (congrArg nI (by push_cast;omega))|(refine bp (congrArg V.s (?_:S.row 9 10 _=S.row 9 10 _));simp;done)|refine⟨?_,?_⟩)
   ·refine⟨rfl,bN ?_ trivial⟩
    rw[show List.map (λr=>nS r) (D++[r2',r5'])=((D.map λr=>nS r)++[nS r2'])++[nS r5'] from by simp];rfl
   ·exact (by unfold kg;generalize List.map _ _=cg;cases cg<;>rfl)
 | @unit s ns _ j2 j3 _ k' q r3' r4' r5' R' hq hk' c dd3 cc3 dd4 dd5 t=>
   have hjl2:j<names.length:=by
    rcases Z0a j names.length with h|h
    ·exact h
    ·rw[Z10 h] at hj;cases hj
   have hjs:names.drop (j+1)=ns/\names.getD j []=s:=by
    rw[Z0k hjl2] at hj
    injection hj with a b
    exact⟨b,by rw[Z00,Z01 hjl2];exact a⟩
   simp only[Z04] at hDK;unfold ce at dd5;rw[<-hjs.2] at dd3
   repeat'(first|refine y1 ?_|refine y2 ?_ ?_|refine y4 λh=>?_|refine ay c ?_|refine ay cc3 ?_|refine an dd4 ?_|refine an dd3 ?_|refine wX (eS nS [] [r3',r4'] dd5 ?_)|refine jC (i:=1) (g:=2) (m:=D.length) (w:=1) (cs:=D.map λr=>nS r) (foot:=[4]) (k:=1) (add:=[nS r5']) rfl rfl av rfl rfl rfl rfl rfl rfl rfl hsz ac rfl ⟨Z02 _,rfl⟩ ac av rfl (by rw[hby];omega) aa rfl ?_|refine y3 ?_|exact y5|fail)
   all_goals try first
    |exact aj (by push_cast;omega) (by push_cast;omega)
    |omega
   refine fq (ns,j+1,j3,D++[r5']) ⟨hjs.1,hjl2,R',t,by simpa using hD⟩ (by first|(simp only;omega)|(simp only[Z04];omega)) [0,5,6] rfl ?_ ?_ ?_
   ·repeat' (first|exact ah _|exact cT _|exact Z0o|exact bp (congrArg nI (by push_cast;omega))|(refine bp (congrArg V.s (?_:S.row 5 6 _=S.row 5 6 _));simp;done)|refine⟨?_,?_⟩)
   ·refine⟨rfl,bN ?_ trivial⟩
    rw[Z0d];rfl
   ·exact (by unfold kg;generalize List.map _ _=cg;cases cg<;>rfl)
def Cn (l:List Int) (dep:Int) (args:Nat) (loop:Bool) (B:Nat):Prop:=∀ i,i<=l.length->∃ (r:List Nd) (i':Nat),OKr B r/\i'<=l.length/\FQ 168 [cP,nI dep,nI args,bV loop] 1 (b_ l i) (ao r) 1 (b_ l i')
def BlockE (l:List Int) (dep:Int) (args:Nat) (loop:Bool) (B:Nat):Prop:=∀ i,i<=l.length->∃ (r:List Nd) (i':Nat),OKr B r/\i'<=l.length/\FQ 104 [cP,nI dep,nI args,bV loop] 1 (b_ l i) (ao r) 1 (b_ l i')
inductive BlT (l:List Int) (dep:Int) (args:Nat) (loop:Bool):Nat->Nat->List (List Nd)->Nat->Prop
 |nil (i:Nat):BlT l dep args loop 0 i [] i
 |stop {n i:Nat} (c:FQ 46 [cP] 1 (b_ l i) (bV false) 1 (b_ l i)):BlT l dep args loop (n+1) i [] i
 |last {n i i1:Nat} {x:Nd} {r:List Nd} (c:FQ 46 [cP] 1 (b_ l i) (bV true) 1 (b_ l i)) (c2:FQ 168 [cP,nI dep,nI args,bV loop] 1 (b_ l i) (ao (x::r)) 1 (b_ l i1))
  (ho:x.op=33\/x.op=34\/x.op=35):BlT l dep args loop (n+1) i [x::r] i1
 |cons {n i i1 i':Nat} {x:Nd} {r:List Nd} {K:List (List Nd)} (c:FQ 46 [cP] 1 (b_ l i) (bV true) 1 (b_ l i)) (c2:FQ 168 [cP,nI dep,nI args,bV loop] 1 (b_ l i) (ao (x::r)) 1 (b_ l i1))
  (h1: ¬x.op=33) (h2: ¬x.op=34) (h3: ¬x.op=35) (t:BlT l dep args loop n i1 K i'):BlT l dep args loop (n+1) i ((x::r)::K) i'
theorem GD {l:List Int} {dep:Int} {args:Nat} {loop:Bool} {n i i':Nat} {K:List (List Nd)} (h:BlT l dep args loop n i K i'):K.length<=n:=by
 induction h with
 |nil i=>simp
 |stop _=>simp
 |last _ _ _=>simp
 |cons _ _ _ _ _ _ ih=>simp;omega
theorem H6 (l:List Int) (hl:l.length<=20000000000000) (dep:Int) (args:Nat) (loop:Bool) (B:Nat) (hS:Cn l dep args loop B):∀ (n i:Nat),i<=l.length->∃ K i',BlT l dep args loop n i K i'/\i'<=l.length/\∀ r∈K,OKr B r
 |0,i,hi=>⟨[],i,.nil i,hi,λr hr=>by cases hr⟩
 |n+1,i,hi=>by
  obtain⟨b,hb,c⟩:=Ar l hl i hi
  cases b with
  |false=>exact⟨[],i,.stop c,hi,λr hr=>by cases hr⟩
  |true=>
   obtain⟨r,i1,o,hi1,c2⟩:=hS i hi;obtain⟨x,r,rfl⟩:=Z4j o.ne;by_cases ho:x.op=33\/x.op=34\/x.op=35
   ·exact⟨[x::r],i1,.last c c2 ho,hi1,λq hq=>by rw[Z0m.1 hq];exact o⟩
   ·obtain⟨K,i',h1,h2,h4⟩:=H6 l hl dep args loop B hS n i1 hi1
    refine⟨(x::r)::K,i',.cons c c2 (λh=>ho (.inl h)) (λh=>ho (.inr (.inl h))) (λh=>ho (.inr (.inr h))) h1,h2,λq hq=>?_⟩
    rcases Z0h.1 hq with rfl|hq
    ·exact o
    ·exact h4 q hq
theorem mt (l:List Int) (hl:l.length<=20000000000000) (dep:Int) (args:Nat) (loop:Bool) (B:Nat) (hB2:B<=100000000000) (hS:Cn l dep args loop B):BlockE l dep args loop (1+3*B):=by
 intro i hi;obtain⟨m,i2,hm2,hi2,c2⟩:=ax l hl 4 ac ac i hi;obtain⟨K,i3,hB,hi3,hK⟩:=H6 l hl dep args loop B hS m i2 hi2;have hKl:=GD hB;have hKB:K.length*B<=3*B:=Z1w B aa;obtain⟨r,o,dn⟩:=aM 4 K (B:=B) (1+3*B) hK aa aa aa;unfold ce at dn;refine⟨r,i3,o,hi3,?_⟩;have hsz:(Tryz.prog.types[32]).size=1:=bd;have hby:(Tryz.prog.types[32]).bytes=24:=bd;refine wW Tryz.func104 ?_
 repeat'(first|refine yA ?_|refine y2 ?_ ?_|refine ay c2 ?_|exact y5|fail)
 refine fN 9 (.s (.row 1 2 0)) (VLe.s SLe.nilrow) rfl (Ex.upN (n':=3) aa ?_)
 refine cD (σ:=Nat×Nat×List (List Nd)) (λs=>[(9,.s (.row 1 2 s.2.2.length)),(10,nI s.1)]) (λs=>[(0,some {cells:=[q9 l,.int .i64 (s.2.1:Int)],ty:=97}),(1,kg 1 s.2.2)])
  (λs=>∃ R,BlT l dep args loop s.1 s.2.1 R i3/\s.2.2++R=K/\s.2.2.length+s.1<=3) (λs=>s.1) (m,i2,[]) rfl (λ_=>rfl) ⟨K,hB,rfl,by simp;omega⟩ bc ⟨rfl,trivial⟩ ?_
 rintro⟨n,j,D⟩ ⟨R,hR,hD,hDn⟩;simp only at hR hD hDn |-
 cases hR with
 |nil=>
  rw[Z0u] at hD;subst hD
  cases D with
  |nil=>
   repeat'(first|refine yA ?_|refine y2 ?_ ?_|refine y4 λh=>?_|(refine wX ?_;refine oz dn rfl ⟨ah _,VLe.s SLe.row0,trivial⟩ rfl rfl rfl ?_)|exact y5|fail)
   all_goals exact bD
  |cons x D=>
   repeat'(first|refine yA ?_|refine y2 ?_ ?_|refine y4 λh=>?_|(refine wX ?_;refine eS nS [] (x::D) dn ?_)|exact y5|fail)
   all_goals exact bD
 |stop c=>
  rw[Z0u] at hD;subst hD
  cases D with
  |nil=>
   repeat'(first|refine yA ?_|refine y2 ?_ ?_|refine y4 λh=>?_|refine ay c ?_|(refine wX ?_;refine oz dn rfl ⟨ah _,VLe.s SLe.row0,trivial⟩ rfl rfl rfl ?_)|exact y5|fail)
   all_goals exact bD
  |cons x D=>
   repeat'(first|refine yA ?_|refine y2 ?_ ?_|refine y4 λh=>?_|refine ay c ?_|(refine wX ?_;refine eS nS [] (x::D) dn ?_)|exact y5|fail)
   all_goals exact bD
 | @last n _ j1 x0 r0 c cc2 ho=>
   subst hD;obtain⟨op0,n0,s0,k0⟩:=x0;simp only at ho
   rcases ho with rfl|rfl|rfl
   all_goals
    cases D with
    |nil=>
     simp only[Z04,Z0e] at hDn
     repeat'(first|refine y1 ?_|refine y2 ?_ ?_|(refine y4 λh=>?_;try(first|(first|exact absurd rfl (by assumption)|exact absurd (by assumption) ac|(exfalso;omega))|exact y6))|refine ay c ?_|refine ay cc2 ?_|(refine wX ?_;refine eS nS [] ([]++[⟨_,n0,s0,k0⟩::r0]) dn ?_)|exact Z1n (List.length r0)|refine jC (i:=1) (g:=2) (m:=0) (w:=1) (cs:=[]) (foot:=[3]) (k:=1) (add:=[nS (⟨_,n0,s0,k0⟩::r0)]) rfl rfl av rfl rfl rfl rfl rfl rfl rfl hsz ac rfl ⟨Z02 _,rfl⟩ ac av rfl (by rw[hby];omega) aa rfl ?_|refine y3 ?_|exact y5|fail)
     all_goals exact bD
    |cons y D=>
     simp only[Z04,Z0e] at hDn
     repeat'(first|refine y1 ?_|refine y2 ?_ ?_|(refine y4 λh=>?_;try(first|(first|exact absurd rfl (by assumption)|exact absurd (by assumption) ac|(exfalso;omega))|exact y6))|refine ay c ?_|refine ay cc2 ?_|(refine wX ?_;refine eS nS [] ((y::D)++[⟨_,n0,s0,k0⟩::r0]) dn ?_)|exact Z1n (List.length r0)|refine jC (i:=1) (g:=2) (m:=D.length+1) (w:=1) (cs:=(y::D).map λr=>nS r) (foot:=[3]) (k:=1) (add:=[nS (⟨_,n0,s0,k0⟩::r0)]) rfl rfl av rfl rfl rfl rfl rfl rfl rfl hsz ac rfl ⟨Z02 _,rfl⟩ ac av rfl (by rw[hby];omega) aa rfl ?_|refine y3 ?_|exact y5|fail)
     all_goals exact bD
 | @cons n _ j1 _ x0 r0 R' c cc2 h1 h2 h3 t=>
   repeat'(first|refine y1 ?_|refine y2 ?_ ?_|refine y4 λh=>?_|refine ay c ?_|refine ay cc2 ?_|exact Z1n (List.length r0)|refine jC (i:=1) (g:=2) (m:=D.length) (w:=1) (cs:=D.map λr=>nS r) (foot:=[3]) (k:=1) (add:=[nS (x0::r0)]) rfl rfl av rfl rfl rfl rfl rfl rfl rfl hsz ac rfl ⟨Z02 _,rfl⟩ ac av rfl (by rw[hby];omega) aa rfl ?_|refine y3 ?_|exact y5|fail)
   refine fq (n,j1,D++[x0::r0]) ⟨R',t,by simpa using hD,by simp;omega⟩ (by first|(simp only;omega)|(simp only[Z04];omega)) [0,4,5] rfl ?_ ?_ ?_
   ·repeat'(first|exact ah _|exact cT _|exact Z0o|exact bp (congrArg nI (by push_cast;omega))|(refine bp (congrArg V.s (?_:S.row 4 5 _=S.row 4 5 _));simp;done)|refine⟨?_,?_⟩)
   ·refine⟨rfl,bN ?_ trivial⟩
    rw[Z0d];rfl
   ·exact (by unfold kg;generalize List.map _ _=cg;cases cg<;>rfl)
theorem pO (l:List Int) (hl:l.length<=20000000000000) (dep:Int) (h1: -1<=dep) (h2:dep<=3) (args:Nat) (ha:args<=100) (B:Nat) (hB1:3000<=B) (hB2:B<=10000000000) (hB:0<dep->∀ loop,BlockE l (dep-1) args loop B) (loop:Bool):
 Cn l dep args loop (12100+3*B):=by
 intro i hi
 have eE:∀ d:Int,-10<=d->d<=3->eC l d args 3000:=λd p q=>Gh l hl args ha d p q
 obtain⟨k,i1,hk,hi1,c1⟩:=ax l hl 14 ac ac i hi;by_cases hc:k=1/\0<dep
 ·obtain⟨rfl,hd⟩:=hc
  obtain⟨q,i2,hq,hi2,c2⟩:=ax l hl 2 ac ac i1 hi1;obtain⟨r1,i3,o1,hi3,c3⟩:=eE 1 ac ac i2 hi2;obtain⟨r2,i4,o2,hi4,c4⟩:=hB hd loop i3 hi3;by_cases hq0:q=0
  ·subst hq0
   obtain⟨r,o,dn⟩:=aM 31 [r1,r2] (B:=B) (12100+3*B) (by simp[o1.le hB1,o2]) (by first|(simp;done)|(simp;omega)) av (by first|(simp;done)|(simp;omega));unfold ce at dn;refine⟨r,i4,o,hi4,?_⟩;refine wW Tryz.func168 ?_
   repeat'(first|refine yA ?_|refine y2 ?_ ?_|refine y4 λh=>?_|refine ay c1 ?_|refine ay c2 ?_|refine ay c3 ?_|refine ay c4 ?_|refine wX (eS nS [] [r1,r2] dn ?_)|exact y5|fail)
   all_goals first
    |exact bD
    |omega
    |exact al aa aa
    |exact aj aa aa
  ·obtain⟨r3,i5,o3,hi5,c5⟩:=hB hd loop i4 hi4
   obtain⟨r,o,dn⟩:=aM 31 [r1,r2,r3] (B:=B) (12100+3*B) (by simp[o1.le hB1,o2,o3]) (by first|(simp;done)|(simp;omega)) av (by first|(simp;done)|(simp;omega));unfold ce at dn;refine⟨r,i5,o,hi5,?_⟩;refine wW Tryz.func168 ?_
   repeat'(first|refine yA ?_|refine y2 ?_ ?_|refine y4 λh=>?_|refine ay c1 ?_|refine ay c2 ?_|refine ay c3 ?_|refine ay c4 ?_|refine ay c5 ?_|refine wX (eS nS [] [r1,r2,r3] dn ?_)|exact y5|fail)
   all_goals first
    |exact bD
    |omega
    |exact al aa aa
    |exact aj aa aa
 by_cases hc:k=2/\0<dep
 ·obtain⟨rfl,hd⟩:=hc
  obtain⟨r1,i3,o1,hi3,c3⟩:=eE 1 ac ac i1 hi1;obtain⟨r2,i4,o2,hi4,c4⟩:=hB hd true i3 hi3;obtain⟨r,o,dn⟩:=aM 32 [r1,r2] (B:=B) (12100+3*B) (by simp[o1.le hB1,o2]) (by first|(simp;done)|(simp;omega)) av (by first|(simp;done)|(simp;omega));unfold ce at dn;refine⟨r,i4,o,hi4,?_⟩;refine wW Tryz.func168 ?_
  repeat'(first|refine yA ?_|refine y2 ?_ ?_|refine y4 λh=>?_|refine ay c1 ?_|refine ay c3 ?_|refine ay c4 ?_|refine wX (eS nS [] [r1,r2] dn ?_)|exact y5|fail)
  all_goals first
   |exact bD
   |omega
   |exact al aa aa
   |exact aj aa aa
 by_cases hc:k=3
 ·subst hc
  obtain⟨r1,i3,o1,hi3,c3⟩:=eE dep aa h2 i1 hi1;obtain⟨r,o,dn⟩:=aM 33 [r1] (B:=B) (12100+3*B) (by simp[o1.le hB1]) (by first|(simp;done)|(simp;omega)) av (by first|(simp;done)|(simp;omega));unfold ce at dn;refine⟨r,i3,o,hi3,?_⟩;refine wW Tryz.func168 ?_
  repeat'(first|refine yA ?_|refine y2 ?_ ?_|refine y4 λh=>?_|refine ay c1 ?_|refine ay c3 ?_|refine wX (eS nS [] [r1] dn ?_)|exact y5|fail)
  all_goals first
   |exact bD
   |omega
   |exact al aa aa
   |exact aj aa aa
 by_cases hc:k=4/\loop=true
 ·obtain⟨rfl,rfl⟩:=hc
  obtain⟨r,o,dn⟩:=aM 34 [] (B:=0) 1 (λr hr=>by cases hr) av av av;unfold ce at dn;refine⟨r,i1,o.le aa,hi1,?_⟩;refine wW Tryz.func168 ?_
  repeat'(first|refine yA ?_|refine y2 ?_ ?_|refine y4 λh=>?_|refine ay c1 ?_|(refine wX ?_;refine oz dn rfl ⟨ah _,VLe.s SLe.nil,trivial⟩ rfl rfl rfl ?_)|exact y5|fail)
  all_goals first
   |exact bD
   |omega
   |exact al aa aa
   |exact aj aa aa
 by_cases hc:k=5/\loop=true
 ·obtain⟨rfl,rfl⟩:=hc
  obtain⟨r,o,dn⟩:=aM 35 [] (B:=0) 1 (λr hr=>by cases hr) av av av;unfold ce at dn;refine⟨r,i1,o.le aa,hi1,?_⟩;refine wW Tryz.func168 ?_
  repeat'(first|refine yA ?_|refine y2 ?_ ?_|refine y4 λh=>?_|refine ay c1 ?_|(refine wX ?_;refine oz dn rfl ⟨ah _,VLe.s SLe.nil,trivial⟩ rfl rfl rfl ?_)|exact y5|fail)
  all_goals first
   |exact bD
   |omega
   |exact al aa aa
   |exact aj aa aa
 by_cases hc:k=6
 ·subst hc
  obtain⟨r1,o1,d1⟩:=cR [77,84,88] ac;obtain⟨r,o,dn⟩:=aM 36 [r1] (B:=B) (12100+3*B) (by simp[o1.le (show 1<=B by omega)]) (by first|(simp;done)|(simp;omega)) av (by first|(simp;done)|(simp;omega));unfold ce at dn;refine⟨r,i1,o,hi1,?_⟩;refine wW Tryz.func168 ?_
  repeat'(first|refine yA ?_|refine y2 ?_ ?_|refine y4 λh=>?_|refine ay c1 ?_|refine an d1 ?_|refine wX (eS nS [] [r1] dn ?_)|exact y5|fail)
  all_goals first
   |exact bD
   |omega
   |exact al aa aa
   |exact aj aa aa
 by_cases hc:k=7
 ·subst hc
  obtain⟨q,i2,hq,hi2,c2⟩:=ax l hl 2 ac ac i1 hi1;obtain⟨r1,o1,d1⟩:=cR [69,86,84] ac;obtain⟨r,o,dn⟩:=aM (37+(q:Int)) [r1] (B:=B) (12100+3*B) (by simp[o1.le (show 1<=B by omega)]) (by first|(simp;done)|(simp;omega)) av (by first|(simp;done)|(simp;omega));unfold ce at dn;refine⟨r,i2,o,hi2,?_⟩;refine wW Tryz.func168 ?_
  repeat'(first|refine yA ?_|refine y2 ?_ ?_|refine y4 λh=>?_|refine ay c1 ?_|refine ay c2 ?_|refine an d1 ?_|refine wX (eS nS [] [r1] dn ?_)|exact y5|fail)
  all_goals first
   |exact bD
   |omega
   |exact al aa aa
   |exact aj aa aa
 by_cases hc:k=8
 ·subst hc
  obtain⟨q,i2,hq,hi2,c2⟩:=ax l hl 4 ac ac i1 hi1;obtain⟨r1,o1,d1⟩:=dm q aa;obtain⟨r,o,dn⟩:=aM 39 [r1] (B:=B) (12100+3*B) (by simp[o1.le (show 1<=B by omega)]) (by first|(simp;done)|(simp;omega)) av (by first|(simp;done)|(simp;omega));unfold ce at dn;refine⟨r,i2,o,hi2,?_⟩;refine wW Tryz.func168 ?_
  repeat'(first|refine yA ?_|refine y2 ?_ ?_|refine y4 λh=>?_|refine ay c1 ?_|refine ay c2 ?_|refine an d1 ?_|refine wX (eS nS [] [r1] dn ?_)|exact y5|fail)
  all_goals first
   |exact bD
   |omega
   |exact al aa aa
   |exact aj aa aa
 by_cases hc:k=9
 ·subst hc
  obtain⟨s,i2,hs,hi2,c2⟩:=k_ l hl i1 hi1;obtain⟨r1,o1,d1⟩:=cR s aa;obtain⟨r2,i3,o2,hi3,c3⟩:=eE 0 ac ac i2 hi2;obtain⟨r,o,dn⟩:=aM 40 [r1,r2] (B:=B) (12100+3*B) (by simp[o1.le (show 1<=B by omega),o2.le hB1]) (by first|(simp;done)|(simp;omega)) av (by first|(simp;done)|(simp;omega));unfold ce at dn;refine⟨r,i3,o,hi3,?_⟩;refine wW Tryz.func168 ?_
  repeat'(first|refine yA ?_|refine y2 ?_ ?_|refine y4 λh=>?_|refine ay c1 ?_|refine ay c2 ?_|refine an d1 ?_|refine ay c3 ?_|refine wX (eS nS [] [r1,r2] dn ?_)|exact y5|fail)
  all_goals first
   |exact bD
   |omega
   |exact al aa aa
   |exact aj aa aa
 by_cases hc:k=10
 ·subst hc
  obtain⟨r,i2,o,hi2,c2⟩:=BP l hl dep aa aa args 3000 ha ac ac (eE _ aa aa) i1 hi1;refine⟨r,i2,o.le aa,hi2,?_⟩;refine wW Tryz.func168 ?_
  repeat'(first|refine yA ?_|refine y2 ?_ ?_|refine y4 λh=>?_|refine ay c1 ?_|refine ay c2 ?_|exact y5|fail)
  all_goals first
   |exact bD
   |omega
   |exact al aa aa
   |exact aj aa aa
 by_cases hc:k=11
 ·subst hc
  obtain⟨r,i2,o,hi2,c2⟩:=yY l hl dep aa aa args 3000 ha ac ac (eE _ aa aa) i1 hi1;refine⟨r,i2,o.le aa,hi2,?_⟩;refine wW Tryz.func168 ?_
  repeat'(first|refine yA ?_|refine y2 ?_ ?_|refine y4 λh=>?_|refine ay c1 ?_|refine ay c2 ?_|exact y5|fail)
  all_goals first
   |exact bD
   |omega
   |exact al aa aa
   |exact aj aa aa
 obtain⟨r1,i2,o1,hi2,c2⟩:=eE dep aa h2 i1 hi1;obtain⟨r2,i3,o2,hi3,c3⟩:=mM l hl dep aa aa args 3000 ha ac ac (λ_=>eE _ aa aa) i2 hi2;obtain⟨r,o,dn⟩:=aM 30 [r1,r2] (B:=6001) 12003 (by simp[o1.le (show 3000<=6001 by decide),o2.le (show 1+2*3000<=6001 by decide)]) av av av;unfold ce at dn;refine⟨r,i3,o.le aa,hi3,?_⟩;by_cases k1:k=1
 ·subst k1
  have hd: ¬dep>0:=aa;refine wW Tryz.func168 ?_
  repeat'(first|refine yA ?_|refine y2 ?_ ?_|refine y4 λh=>?_|refine ay c1 ?_|refine ay c2 ?_|refine ay c3 ?_|refine wX (eS nS [] [r1,r2] dn ?_)|exact y5|fail)
  all_goals first
   |exact bD
   |omega
   |exact al aa aa
   |exact aj aa aa
 by_cases k2:k=2
 ·subst k2
  have hd: ¬dep>0:=aa;refine wW Tryz.func168 ?_
  repeat'(first|refine yA ?_|refine y2 ?_ ?_|refine y4 λh=>?_|refine ay c1 ?_|refine ay c2 ?_|refine ay c3 ?_|refine wX (eS nS [] [r1,r2] dn ?_)|exact y5|fail)
  all_goals first
   |exact bD
   |omega
   |exact al aa aa
   |exact aj aa aa
 by_cases k4:k=4
 ·subst k4
  have hl2:loop=false:=by cases loop<;>simp_all
  subst hl2;refine wW Tryz.func168 ?_
  repeat'(first|refine yA ?_|refine y2 ?_ ?_|refine y4 λh=>?_|refine ay c1 ?_|refine ay c2 ?_|refine ay c3 ?_|refine wX (eS nS [] [r1,r2] dn ?_)|exact y5|fail)
  all_goals first
   |exact bD
   |omega
   |exact al aa aa
   |exact aj aa aa
 by_cases k5:k=5
 ·subst k5
  have hl2:loop=false:=by cases loop<;>simp_all
  subst hl2;refine wW Tryz.func168 ?_
  repeat'(first|refine yA ?_|refine y2 ?_ ?_|refine y4 λh=>?_|refine ay c1 ?_|refine ay c2 ?_|refine ay c3 ?_|refine wX (eS nS [] [r1,r2] dn ?_)|exact y5|fail)
  all_goals first
   |exact bD
   |omega
   |exact al aa aa
   |exact aj aa aa
 refine wW Tryz.func168 ?_
 repeat'(first|refine yA ?_|refine y2 ?_ ?_|refine y4 λh=>?_|refine ay c1 ?_|refine ay c2 ?_|refine ay c3 ?_|refine wX (eS nS [] [r1,r2] dn ?_)|exact y5|fail)
 all_goals first
  |exact bD
  |omega
  |exact al aa aa
  |exact aj aa aa
theorem BlockE.up {l:List Int} {dep:Int} {args:Nat} {loop:Bool} {B C:Nat} (hbc:B<=C) (h:BlockE l dep args loop B):BlockE l dep args loop C:=λi hi=>by
 obtain⟨r,i',o,h⟩:=h i hi;exact⟨r,i',o.le hbc,h⟩
theorem D6 (l:List Int) (hl:l.length<=20000000000000) (args:Nat) (ha:args<=100):∀ dep:Int,0<=dep->dep<=3->∀ loop,BlockE l dep args loop 50000000:=by
 have s0:∀ loop,BlockE l 0 args loop (1+3*(12100+3*3000)):=λloop=>mt l hl 0 args loop _ ac (pO l hl 0 ac ac args ha 3000 ac ac (λh=>absurd h ac) loop)
 have s1:∀ loop,BlockE l 1 args loop (1+3*(12100+3*(1+3*(12100+3*3000)))):=λloop=>mt l hl 1 args loop _ ac (pO l hl 1 ac ac args ha _ ac ac (λ_ loop=>s0 loop) loop)
 have s2:∀ loop,BlockE l 2 args loop (1+3*(12100+3*(1+3*(12100+3*(1+3*(12100+3*3000)))))):=λloop=>mt l hl 2 args loop _ ac (pO l hl 2 ac ac args ha _ ac ac (λ_ loop=>s1 loop) loop)
 have s3:∀ loop,BlockE l 3 args loop (1+3*(12100+3*(1+3*(12100+3*(1+3*(12100+3*(1+3*(12100+3*3000)))))))):=λloop=>mt l hl 3 args loop _ ac (pO l hl 3 ac ac args ha _ ac ac (λ_ loop=>s2 loop) loop)
 intro dep h1 h2 loop
 rcases (aa:dep=0\/dep=1\/dep=2\/dep=3) with rfl|rfl|rfl|rfl
 ·exact (s0 loop).up ac
 ·exact (s1 loop).up ac
 ·exact (s2 loop).up ac
 ·exact (s3 loop).up ac
theorem Ag (l:List Int) (hl:l.length<=20000000000000) (s:By) (hs:wL s<=1000) (dep:Int) (h1:0<=dep) (h2:dep<=3) (i:Nat) (hi:i<=l.length):
 ∃ (r:List Nd) (i':Nat),OKr 2000000000 r/\i'<=l.length/\FQ 59 [cP,sV s,nI dep] 1 (b_ l i) (ao r) 1 (b_ l i'):=by
 obtain⟨k,i1,hk,hi1,c1⟩:=ax l hl 3 ac ac i hi;obtain⟨m,i2,hm2,hi2,c2⟩:=ax l hl 2 ac ac i1 hi1;obtain⟨q,i3,hq,hi3,c3⟩:=ax l hl 3 ac ac i2 hi2;obtain⟨rb,i4,ob,hi4,c4⟩:=D6 l hl k aa dep h1 h2 false i3 hi3;obtain⟨r1,o1,d1⟩:=cR s hs;obtain⟨r2,o2,d2⟩:=dm k aa;obtain⟨r3,o3,d3⟩:=dm m aa;obtain⟨r4,o4,d4⟩:=dm q aa;obtain⟨r,o,dn⟩:=aM 14 [r1,r2,r3,r4,rb] (B:=50000000) 2000000000 (by simp[o1.le,o2.le,o3.le,o4.le,ob]) av av av;unfold ce at dn;refine⟨r,i4,o,hi4,?_⟩;refine wW Tryz.func59 ?_
 repeat'(first|refine yA ?_|refine y2 ?_ ?_|refine y4 λh=>?_|refine ay c1 ?_|refine ay c2 ?_|refine ay c3 ?_|refine an d1 ?_|refine an d2 ?_|refine an d3 ?_|refine an d4 ?_|refine ay c4 ?_|refine wX (eS nS [] [r1,r2,r3,r4,rb] dn ?_)|exact y5|fail)
 all_goals first
  |exact bD
  |omega
  |exact al aa aa
  |exact aj aa aa
def ou (l:List Int) (dep:Int) (B:Nat):Prop:=∀ i,i<=l.length->∃ (r:List Nd) (i':Nat),OKr B r/\i'<=l.length/\FQ 22 [cP,nI dep] 1 (b_ l i) (ao r) 1 (b_ l i')
def Co (l:List Int) (dep:Int) (B:Nat):Prop:=∀ i,i<=l.length->∃ (r:List Nd) (i':Nat),OKr B r/\i'<=l.length/\FQ 57 [cP,nI dep] 1 (b_ l i) (ao r) 1 (b_ l i')
inductive DcT (l:List Int) (dep:Int):Nat->Nat->List (List Nd)->Nat->Prop
 |nil (i:Nat):DcT l dep 0 i [] i
 |stop {n i:Nat} (c:FQ 46 [cP] 1 (b_ l i) (bV false) 1 (b_ l i)):DcT l dep (n+1) i [] i
 |cons {n i i1 i':Nat} {r:List Nd} {K:List (List Nd)} (c:FQ 46 [cP] 1 (b_ l i) (bV true) 1 (b_ l i)) (c2:FQ 22 [cP,nI dep] 1 (b_ l i) (ao r) 1 (b_ l i1)) (hr:r≠[]) (t:DcT l dep n i1 K i'):DcT l dep (n+1) i (r::K) i'
theorem DT {l:List Int} {dep:Int} {n i i':Nat} {K:List (List Nd)} (h:DcT l dep n i K i'):K.length<=n:=by
 induction h with
 |nil i=>simp
 |stop _=>simp
 |cons _ _ _ _ ih=>simp;omega
theorem HX (l:List Int) (hl:l.length<=20000000000000) (dep:Int) (B:Nat) (hS:ou l dep B):∀ (n i:Nat),i<=l.length->∃ K i',DcT l dep n i K i'/\i'<=l.length/\∀ r∈K,OKr B r
 |0,i,hi=>⟨[],i,.nil i,hi,λr hr=>by cases hr⟩
 |n+1,i,hi=>by
  obtain⟨b,hb,c⟩:=Ar l hl i hi
  cases b with
  |false=>exact⟨[],i,.stop c,hi,λr hr=>by cases hr⟩
  |true=>
   obtain⟨r,i1,o,hi1,c2⟩:=hS i hi;obtain⟨K,i',h1,h2,h4⟩:=HX l hl dep B hS n i1 hi1;refine⟨r::K,i',.cons c c2 o.ne h1,h2,λq hq=>?_⟩
   rcases Z0h.1 hq with rfl|hq
   ·exact o
   ·exact h4 q hq
theorem DO (l:List Int) (hl:l.length<=20000000000000) (dep:Int) (B:Nat) (hB2:B<=100000000000) (hS:ou l dep B):Co l dep (1+3*B):=by
 intro i hi;obtain⟨m,i2,hm2,hi2,c2⟩:=ax l hl 4 ac ac i hi;obtain⟨K,i3,hB,hi3,hK⟩:=HX l hl dep B hS m i2 hi2;have hKl:=DT hB;have hKB:K.length*B<=3*B:=Z1w B aa;obtain⟨r,o,dn⟩:=aM 4 K (B:=B) (1+3*B) hK aa aa aa;unfold ce at dn;refine⟨r,i3,o,hi3,?_⟩;have hsz:(Tryz.prog.types[32]).size=1:=bd;have hby:(Tryz.prog.types[32]).bytes=24:=bd;refine wW Tryz.func57 ?_
 repeat'(first|refine yA ?_|refine y2 ?_ ?_|refine y4 λh=>?_|refine ay c2 ?_|exact y5|fail)
 refine fN 5 (.s (.row 1 2 0)) (VLe.s SLe.nilrow) rfl (Ex.upN (n':=3) aa ?_)
 refine cD (σ:=Nat×Nat×List (List Nd)) (λs=>[(5,.s (.row 1 2 s.2.2.length)),(6,nI s.1)]) (λs=>[(0,some {cells:=[q9 l,.int .i64 (s.2.1:Int)],ty:=97}),(1,kg 1 s.2.2)])
  (λs=>∃ R,DcT l dep s.1 s.2.1 R i3/\s.2.2++R=K/\s.2.2.length+s.1<=3) (λs=>s.1) (m,i2,[]) rfl (λ_=>rfl) ⟨K,hB,rfl,by simp;omega⟩ bc ⟨rfl,trivial⟩ ?_
 rintro⟨n,j,D⟩ ⟨R,hR,hD,hDn⟩;simp only at hR hD hDn |-
 cases hR with
 |nil=>
  rw[Z0u] at hD;subst hD
  cases D with
  |nil=>
   repeat'(first|refine yA ?_|refine y2 ?_ ?_|refine y4 λh=>?_|(refine wX ?_;refine oz dn rfl ⟨ah _,VLe.s SLe.row0,trivial⟩ rfl rfl rfl ?_)|exact y5|fail)
   all_goals first
    |exact bD
    |omega
    |exact al aa aa
    |exact aj aa aa
  |cons x D=>
   repeat'(first|refine yA ?_|refine y2 ?_ ?_|refine y4 λh=>?_|(refine wX ?_;refine eS nS [] (x::D) dn ?_)|exact y5|fail)
   all_goals first
    |exact bD
    |omega
    |exact al aa aa
    |exact aj aa aa
 |stop c=>
  rw[Z0u] at hD;subst hD
  cases D with
  |nil=>
   repeat'(first|refine yA ?_|refine y2 ?_ ?_|refine y4 λh=>?_|refine ay c ?_|(refine wX ?_;refine oz dn rfl ⟨ah _,VLe.s SLe.row0,trivial⟩ rfl rfl rfl ?_)|exact y5|fail)
   all_goals first
    |exact bD
    |omega
    |exact al aa aa
    |exact aj aa aa
  |cons x D=>
   repeat'(first|refine yA ?_|refine y2 ?_ ?_|refine y4 λh=>?_|refine ay c ?_|(refine wX ?_;refine eS nS [] (x::D) dn ?_)|exact y5|fail)
   all_goals first
    |exact bD
    |omega
    |exact al aa aa
    |exact aj aa aa
 | @cons n _ j1 _ r' R' c cc2 hr t=>
   repeat'(first|refine y1 ?_|refine y2 ?_ ?_|refine y4 λh=>?_|refine ay c ?_|refine ay cc2 ?_|refine jC (i:=1) (g:=2) (m:=D.length) (w:=1) (cs:=D.map λr=>nS r) (foot:=[3]) (k:=1) (add:=[nS r']) rfl rfl av rfl rfl rfl rfl rfl rfl rfl hsz ac rfl ⟨Z02 _,rfl⟩ ac av rfl (by rw[hby];omega) aa rfl ?_|refine y3 ?_|exact y5|fail)
   all_goals try first
    |exact aj (by push_cast;omega) (by push_cast;omega)
    |omega
   refine fq (n,j1,D++[r']) ⟨R',t,by simpa using hD,by simp;omega⟩ (by first|(simp only;omega)|(simp only[Z04];omega)) [0,4,5] rfl ?_ ?_ ?_
   ·repeat' (first|exact ah _|exact cT _|exact Z0o|exact bp (congrArg nI (by push_cast;omega))|(refine bp (congrArg V.s (?_:S.row 4 5 _=S.row 4 5 _));simp;done)|refine⟨?_,?_⟩)
   ·refine⟨rfl,bN ?_ trivial⟩
    rw[Z0d];rfl
   ·exact (by unfold kg;generalize List.map _ _=cg;cases cg<;>rfl)
theorem Br (l:List Int) (hl:l.length<=20000000000000) (dep:Int) (h1:0<=dep) (h2:dep<=2) (B:Nat) (hB1:3000000000<=B) (hB2:B<=100000000000) (hB:0<dep->Co l (dep-1) B):ou l dep (1000000000+4*B):=by
 intro i hi;obtain⟨kn,i0,hkn,hi0,c0⟩:=ax l hl 10 ac ac i hi;obtain⟨s,hs,cs⟩:=EF kn hkn;obtain⟨k,i1,hk,hi1,c1⟩:=ax l hl 10 ac ac i0 hi0;obtain⟨r1,o1,d1⟩:=cR s aa;by_cases hc:k=1/\0<dep
 ·obtain⟨rfl,hd⟩:=hc
  obtain⟨r2,i2,o2,hi2,c2⟩:=hB hd i1 hi1;obtain⟨r,o,dn⟩:=aM 11 [r1,r2] (B:=B) (1000000000+4*B) (by simp[o1.le (show 1<=B by omega),o2]) (by first|(simp;done)|(simp;omega)) av (by first|(simp;done)|(simp;omega));unfold ce at dn;refine⟨r,i2,o,hi2,?_⟩;refine wW Tryz.func22 ?_
  repeat'(first|refine yA ?_|refine y2 ?_ ?_|refine y4 λh=>?_|refine ay c0 ?_|refine ay c1 ?_|refine an cs ?_|refine an d1 ?_|refine ay c2 ?_|refine wX (eS nS [] [r1,r2] dn ?_)|exact y5|fail)
  all_goals first
   |exact bD
   |omega
   |exact al aa aa
   |exact aj aa aa
 by_cases hc:k=2/\0<dep
 ·obtain⟨rfl,hd⟩:=hc
  obtain⟨m,i2,hm2,hi2,c2⟩:=ax l hl 6 ac ac i1 hi1;obtain⟨q,i3,hq,hi3,c3⟩:=ax l hl 9 ac ac i2 hi2;obtain⟨r2,o2,d2⟩:=dm m aa;obtain⟨r3,o3,d3⟩:=dm q aa;obtain⟨r4,i4,o4,hi4,c4⟩:=hB hd i3 hi3;obtain⟨r,o,dn⟩:=aM 12 [r1,r2,r3,r4] (B:=B) (1000000000+4*B) (by simp[o1.le (show 1<=B by omega),o2.le (show 1<=B by omega),o3.le (show 1<=B by omega),o4]) (by first|(simp;done)|(simp;omega)) av (by first|(simp;done)|(simp;omega));unfold ce at dn;refine⟨r,i4,o,hi4,?_⟩;refine wW Tryz.func22 ?_
  repeat'(first|refine yA ?_|refine y2 ?_ ?_|refine y4 λh=>?_|refine ay c0 ?_|refine ay c1 ?_|refine an cs ?_|refine an d1 ?_|refine ay c2 ?_|refine ay c3 ?_|refine an d2 ?_|refine an d3 ?_|refine ay c4 ?_|refine wX (eS nS [] [r1,r2,r3,r4] dn ?_)|exact y5|fail)
  all_goals first
   |exact bD
   |omega
   |exact al aa aa
   |exact aj aa aa
 by_cases hc:k=3/\0<dep
 ·obtain⟨rfl,hd⟩:=hc
  obtain⟨m,i2,hm2,hi2,c2⟩:=ax l hl 5 ac ac i1 hi1
  obtain⟨z,hz0,hz⟩:∃ z:By,wL z<=1000/\z=(if m=0 then [92] else if m=1 then [92,95,83,66] else if m=2 then [68,69,86,48] else if m=3 then [65] else [94]):=⟨_,by (repeat' split)<;>decide,rfl⟩
  obtain⟨r2,o2,d2⟩:=cR z hz0;obtain⟨r4,i4,o4,hi4,c4⟩:=hB hd i2 hi2;obtain⟨r,o,dn⟩:=aM 10 [r2,r4] (B:=B) (1000000000+4*B) (by simp[o2.le (show 1<=B by omega),o4]) (by first|(simp;done)|(simp;omega)) av (by first|(simp;done)|(simp;omega));unfold ce at dn;refine⟨r,i4,o,hi4,?_⟩
  rcases (aa:m=0\/m=1\/m=2\/m=3\/m=4) with rfl|rfl|rfl|rfl|rfl<;>subst hz
  all_goals
   refine wW Tryz.func22 ?_
   repeat'(first|refine yA ?_|refine y2 ?_ ?_|refine y4 λh=>?_|refine ay c0 ?_|refine ay c1 ?_|refine an cs ?_|refine an d1 ?_|refine ay c2 ?_|refine an d2 ?_|refine ay c4 ?_|refine wX (eS nS [] [r2,r4] dn ?_)|exact y5|fail)
   all_goals first
    |exact bD
    |omega
    |exact al aa aa
    |exact aj aa aa
 by_cases hc:k=4
 ·subst hc
  obtain⟨r,i2,o,hi2,c2⟩:=Ag l hl s aa 2 ac ac i1 hi1;refine⟨r,i2,o.le aa,hi2,?_⟩;refine wW Tryz.func22 ?_
  repeat'(first|refine yA ?_|refine y2 ?_ ?_|refine y4 λh=>?_|refine ay c0 ?_|refine ay c1 ?_|refine an cs ?_|refine an d1 ?_|refine ay c2 ?_|exact y5|fail)
  all_goals first
   |exact bD
   |omega
   |exact al aa aa
   |exact aj aa aa
 by_cases hc:k=5
 ·subst hc
  obtain⟨r,i2,o,hi2,c2⟩:=zE l hl i1 hi1 s aa;refine⟨r,i2,o.le aa,hi2,?_⟩;refine wW Tryz.func22 ?_
  repeat'(first|refine yA ?_|refine y2 ?_ ?_|refine y4 λh=>?_|refine ay c0 ?_|refine ay c1 ?_|refine an cs ?_|refine an d1 ?_|refine ay c2 ?_|exact y5|fail)
  all_goals first
   |exact bD
   |omega
   |exact al aa aa
   |exact aj aa aa
 by_cases hc:k=6
 ·subst hc
  obtain⟨q,i2,hq,hi2,c2⟩:=ax l hl 2 ac ac i1 hi1;by_cases hq0:q=0
  ·subst hq0
   obtain⟨r,i3,o,hi3,c3⟩:=s5 l hl [s] av (by simp;omega) true 2 (.inr rfl) i2 hi2;unfold aR at c3;refine⟨r,i3,o.le aa,hi3,?_⟩;refine wW Tryz.func22 ?_
   repeat'(first|refine yA ?_|refine y2 ?_ ?_|refine y4 λh=>?_|refine ay c0 ?_|refine ay c1 ?_|refine an cs ?_|refine an d1 ?_|refine ay c2 ?_|(refine wX ?_;refine CallG.mz 1 S.str [] [s] (λ_ _=>rfl) [0] c3 rfl rfl rfl rfl rfl rfl rfl rfl rfl bc mF rfl rfl rfl ?_)|exact y5|fail)
   all_goals first
    |exact bD
    |omega
    |exact al aa aa
    |exact aj aa aa
  ·obtain⟨r,i3,o,hi3,c3⟩:=s5 l hl [s] av (by simp;omega) false 2 (.inr rfl) i2 hi2
   unfold aR at c3;refine⟨r,i3,o.le aa,hi3,?_⟩;refine wW Tryz.func22 ?_
   repeat'(first|refine yA ?_|refine y2 ?_ ?_|refine y4 λh=>?_|refine ay c0 ?_|refine ay c1 ?_|refine an cs ?_|refine an d1 ?_|refine ay c2 ?_|(refine wX ?_;refine CallG.mz 1 S.str [] [s] (λ_ _=>rfl) [0] c3 rfl rfl rfl rfl rfl rfl rfl rfl rfl bc mF rfl rfl rfl ?_)|exact y5|fail)
   all_goals first
    |exact bD
    |omega
    |exact al aa aa
    |exact aj aa aa
 by_cases hc:k=7
 ·subst hc
  obtain⟨m,i2,hm2,hi2,c2⟩:=ax l hl 18 ac ac i1 hi1;obtain⟨r2,o2,d2⟩:=dm m aa;obtain⟨r,o,dn⟩:=aM 20 [r1,r2] (B:=1) 1100000000 (by simp[o1,o2]) av av av;unfold ce at dn;refine⟨r,i2,o.le aa,hi2,?_⟩;refine wW Tryz.func22 ?_
  repeat'(first|refine yA ?_|refine y2 ?_ ?_|refine y4 λh=>?_|refine ay c0 ?_|refine ay c1 ?_|refine an cs ?_|refine an d1 ?_|refine ay c2 ?_|refine an d2 ?_|refine wX (eS nS [] [r1,r2] dn ?_)|exact y5|fail)
  all_goals first
   |exact bD
   |omega
   |exact al aa aa
   |exact aj aa aa
 by_cases hc:k=8
 ·subst hc
  obtain⟨r,o,dn⟩:=aM 21 [r1] (B:=1) 1100000000 (by simp[o1]) av av av;unfold ce at dn;refine⟨r,i1,o.le aa,hi1,?_⟩;refine wW Tryz.func22 ?_
  repeat'(first|refine yA ?_|refine y2 ?_ ?_|refine y4 λh=>?_|refine ay c0 ?_|refine ay c1 ?_|refine an cs ?_|refine an d1 ?_|refine wX (eS nS [] [r1] dn ?_)|exact y5|fail)
  all_goals first
   |exact bD
   |omega
   |exact al aa aa
   |exact aj aa aa
 obtain⟨r2,i2,o2,hi2,c2⟩:=qF l hl 2 ac i1 hi1;obtain⟨r,o,dn⟩:=aM 13 [r1,r2] (B:=1000) 1100000000 (by simp[o1.le (show 1<=1000 by decide),o2.le (show 10^(2+1)<=1000 by decide)]) av av av;unfold ce at dn;refine⟨r,i2,o.le aa,hi2,?_⟩;by_cases k1:k=1
 ·subst k1
  have hd: ¬dep>0:=aa;refine wW Tryz.func22 ?_
  repeat'(first|refine yA ?_|refine y2 ?_ ?_|refine y4 λh=>?_|refine ay c0 ?_|refine ay c1 ?_|refine an cs ?_|refine an d1 ?_|refine ay c2 ?_|refine wX (eS nS [] [r1,r2] dn ?_)|exact y5|fail)
  all_goals first
   |exact bD
   |omega
   |exact al aa aa
   |exact aj aa aa
 by_cases k2:k=2
 ·subst k2
  have hd: ¬dep>0:=aa;refine wW Tryz.func22 ?_
  repeat'(first|refine yA ?_|refine y2 ?_ ?_|refine y4 λh=>?_|refine ay c0 ?_|refine ay c1 ?_|refine an cs ?_|refine an d1 ?_|refine ay c2 ?_|refine wX (eS nS [] [r1,r2] dn ?_)|exact y5|fail)
  all_goals first
   |exact bD
   |omega
   |exact al aa aa
   |exact aj aa aa
 by_cases k3:k=3
 ·subst k3
  have hd: ¬dep>0:=aa;refine wW Tryz.func22 ?_
  repeat'(first|refine yA ?_|refine y2 ?_ ?_|refine y4 λh=>?_|refine ay c0 ?_|refine ay c1 ?_|refine an cs ?_|refine an d1 ?_|refine ay c2 ?_|refine wX (eS nS [] [r1,r2] dn ?_)|exact y5|fail)
  all_goals first
   |exact bD
   |omega
   |exact al aa aa
   |exact aj aa aa
 refine wW Tryz.func22 ?_
 repeat'(first|refine yA ?_|refine y2 ?_ ?_|refine y4 λh=>?_|refine ay c0 ?_|refine ay c1 ?_|refine an cs ?_|refine an d1 ?_|refine ay c2 ?_|refine wX (eS nS [] [r1,r2] dn ?_)|exact y5|fail)
 all_goals first
  |exact bD
  |omega
  |exact al aa aa
  |exact aj aa aa
theorem Gr (l:List Int) (hl:l.length<=20000000000000):ou l 1 200000000000:=by
 have d0:ou l 0 (1000000000+4*3000000000):=Br l hl 0 ac ac 3000000000 ac ac (λh=>absurd h ac);have d1:ou l 1 (1000000000+4*(1+3*(1000000000+4*3000000000))):=Br l hl 1 ac ac _ ac ac (λ_=>DO l hl 0 _ ac d0);intro i hi;obtain⟨r,i',o,h⟩:=d1 i hi;exact⟨r,i',o.le ac,h⟩
