import Derived.Test.YtegjgpldfgjoiaaGreatDoorCnJ21
set_option linter.all false
set_option maxHeartbeats 40000000
set_option maxRecDepth 100000
namespace Go.Proofs.YtegjgpldfgjoiaaGreatDoor
open Go Ab
theorem yO (l:List Int) (hl:l.length<=20000000000000) (dep:Int) (h1:1<=dep) (h2:dep<=9) (args B:Nat) (ha:args<=100) (hB1:100<=B) (hB2:B<=30000)
 (hE:fL l (dep-1) args B) (hE2:0<dep-1->fL l (dep-1-1) args B):fL l dep args (2+3*B):=by
 intro i hi;have hd0: ¬dep<=0:=aa;obtain⟨k,i1,hk,hi1,c1⟩:=aJ l hl 16 ac ac i hi;by_cases k1:k=1
 ·obtain⟨r,i2,o,hi2,c2⟩:=pw l hl 0 ac ac args 1 ha ac ac (λh=>absurd h ac) i1 hi1
  refine⟨r,i2,o.le aa,hi2,?_⟩;subst k1;refine wW Tryz.func218 ?_
  repeat'(first|refine yA ?_|refine y2 ?_ ?_|refine y4 λh=>?_|refine aQ c1 ?_|refine aQ c2 ?_|exact y5|fail)
  all_goals exact bK
 by_cases k2:k=2
 ·obtain⟨r,i2,o,hi2,c2⟩:=qu l hl 1 ac i1 hi1
  refine⟨r,i2,o.le aa,hi2,?_⟩;subst k2;refine wW Tryz.func218 ?_
  repeat'(first|refine yA ?_|refine y2 ?_ ?_|refine y4 λh=>?_|refine aQ c1 ?_|refine aQ c2 ?_|exact y5|fail)
  all_goals exact bK
 by_cases k3:k=3
 ·obtain⟨m,i2,hm2,hi2,c2⟩:=aJ l hl 3 ac ac i1 hi1
  obtain⟨r,o,d⟩:=pY 6 m [] aa aq;refine⟨r,i2,o.le aa,hi2,?_⟩;subst k3;refine wW Tryz.func218 ?_
  repeat'(first|refine yA ?_|refine y2 ?_ ?_|refine y4 λh=>?_|refine aQ c1 ?_|refine aQ c2 ?_|(refine wX ?_;refine sC d rfl ⟨ah _,ah _,ah _,VLe.s SLe.nil,trivial⟩ rfl rfl rfl ?_)|exact y5|fail)
  all_goals exact bK
 by_cases k4:k=4
 ·obtain⟨s,i2,hs,hi2,c2⟩:=mQ l hl i1 hi1
  obtain⟨r,o,d⟩:=cC s aa;refine⟨r,i2,o.le aa,hi2,?_⟩;subst k4;refine wW Tryz.func218 ?_
  repeat'(first|refine yA ?_|refine y2 ?_ ?_|refine y4 λh=>?_|refine aQ c1 ?_|refine aQ c2 ?_|refine an d ?_|exact y5|fail)
  all_goals exact bK
 by_cases k5_6_7:k=5\/k=6\/k=7
 ·obtain⟨m,i2,hm2,hi2,c2⟩:=aJ l hl 17 ac ac i1 hi1
  obtain⟨r1,i3,o1,hi3,c3⟩:=hE i2 hi2;obtain⟨r2,i4,o2,hi4,c4⟩:=hE i3 hi3;obtain⟨r,o,dn⟩:=aO (60+(m:Int)) [r1,r2] (B:=B) (2+3*B) (by simp[o1,o2]) (by first|(simp;done)|(simp;omega)) aq (by first|(simp;done)|(simp;omega));refine⟨r,i4,o,hi4,?_⟩
  rcases k5_6_7 with rfl|rfl|rfl
  all_goals
   refine wW Tryz.func218 ?_
   repeat'(first|refine yA ?_|refine y2 ?_ ?_|refine y4 λh=>?_|refine aQ c1 ?_|refine aQ c2 ?_|refine aQ c3 ?_|refine aQ c4 ?_|refine wX (gB nS [] [r1,r2] dn ?_)|exact y5|fail)
   all_goals exact bK
 by_cases k8_9:k=8\/k=9
 ·obtain⟨m,i2,hm2,hi2,c2⟩:=aJ l hl 8 ac ac i1 hi1
  obtain⟨r1,i3,o1,hi3,c3⟩:=hE i2 hi2;obtain⟨r,o,dn⟩:=aO (77+(m:Int)) [r1] (B:=B) (2+3*B) (by simp[o1]) (by first|(simp;done)|(simp;omega)) aq (by first|(simp;done)|(simp;omega));refine⟨r,i3,o,hi3,?_⟩
  rcases k8_9 with rfl|rfl
  all_goals
   refine wW Tryz.func218 ?_
   repeat'(first|refine yA ?_|refine y2 ?_ ?_|refine y4 λh=>?_|refine aQ c1 ?_|refine aQ c2 ?_|refine aQ c3 ?_|refine wX (gB nS [] [r1] dn ?_)|exact y5|fail)
   all_goals exact bK
 by_cases k10:k=10
 ·obtain⟨r1,i2,o1,hi2,c2⟩:=pw l hl (dep-1) aa aa args B ha aa aa hE2 i1 hi1
  obtain⟨r,o,dn⟩:=aO 85 [r1] (B:=1+2*B) (2+3*B) (by simp[o1]) (by first|(simp;done)|(simp;omega)) aq (by first|(simp;done)|(simp;omega));refine⟨r,i2,o,hi2,?_⟩;subst k10;refine wW Tryz.func218 ?_
  repeat'(first|refine yA ?_|refine y2 ?_ ?_|refine y4 λh=>?_|refine aQ c1 ?_|refine aQ c2 ?_|refine wX (gB nS [] [r1] dn ?_)|exact y5|fail)
  all_goals exact bK
 by_cases k11:k=11
 ·obtain⟨r1,i2,o1,hi2,c2⟩:=pw l hl (dep-1) aa aa args B ha aa aa hE2 i1 hi1
  obtain⟨r,o,dn⟩:=aO 87 [r1] (B:=1+2*B) (2+3*B) (by simp[o1]) (by first|(simp;done)|(simp;omega)) aq (by first|(simp;done)|(simp;omega));refine⟨r,i2,o,hi2,?_⟩;subst k11;refine wW Tryz.func218 ?_
  repeat'(first|refine yA ?_|refine y2 ?_ ?_|refine y4 λh=>?_|refine aQ c1 ?_|refine aQ c2 ?_|refine wX (gB nS [] [r1] dn ?_)|exact y5|fail)
  all_goals exact bK
 by_cases k12:k=12
 ·obtain⟨s,i2,hs,hi2,c2⟩:=mQ l hl i1 hi1
  obtain⟨r1,o1,d⟩:=cC s aa;obtain⟨r,o,dn⟩:=aO 86 [r1] (B:=1) 2 (by simp[o1]) aq aq aq;refine⟨r,i2,o.le aa,hi2,?_⟩;subst k12;refine wW Tryz.func218 ?_
  repeat'(first|refine yA ?_|refine y2 ?_ ?_|refine y4 λh=>?_|refine aQ c1 ?_|refine aQ c2 ?_|refine an d ?_|refine wX (gB nS [] [r1] dn ?_)|exact y5|fail)
  all_goals exact bK
 by_cases k13:k=13
 ·obtain⟨r1,i2,o1,hi2,c2⟩:=hE i1 hi1
  obtain⟨r2,i3,o2,hi3,c3⟩:=hE i2 hi2;obtain⟨r3,i4,o3,hi4,c4⟩:=hE i3 hi3;obtain⟨r,o,dn⟩:=aO 88 [r1,r2,r3] (B:=B) (2+3*B) (by simp[o1,o2,o3]) (by first|(simp;done)|(simp;omega)) aq (by first|(simp;done)|(simp;omega));refine⟨r,i4,o,hi4,?_⟩;subst k13;refine wW Tryz.func218 ?_
  repeat'(first|refine yA ?_|refine y2 ?_ ?_|refine y4 λh=>?_|refine aQ c1 ?_|refine aQ c2 ?_|refine aQ c3 ?_|refine aQ c4 ?_|refine wX (gB nS [] [r1,r2,r3] dn ?_)|exact y5|fail)
  all_goals exact bK
 by_cases k14:k=14
 ·obtain⟨r,i2,o,hi2,c2⟩:=FK l hl dep aa aa args B ha aa aa hE i1 hi1
  refine⟨r,i2,o.le aa,hi2,?_⟩;subst k14;refine wW Tryz.func218 ?_
  repeat'(first|refine yA ?_|refine y2 ?_ ?_|refine y4 λh=>?_|refine aQ c1 ?_|refine aQ c2 ?_|exact y5|fail)
  all_goals exact bK
 by_cases k15:k=15
 ·obtain⟨r,i2,o,hi2,c2⟩:=C0 l hl dep aa aa args B ha aa aa hE i1 hi1
  refine⟨r,i2,o.le aa,hi2,?_⟩;subst k15;refine wW Tryz.func218 ?_
  repeat'(first|refine yA ?_|refine y2 ?_ ?_|refine y4 λh=>?_|refine aQ c1 ?_|refine aQ c2 ?_|exact y5|fail)
  all_goals exact bK
 by_cases k0:k=0
 ·obtain⟨x,i2,hx,hi2,c2⟩:=lM l hl i1 hi1
  obtain⟨r,o,d⟩:=eg x hx;refine⟨r,i2,o.le aa,hi2,?_⟩;subst k0;refine wW Tryz.func218 ?_
  repeat'(first|refine yA ?_|refine y2 ?_ ?_|refine y4 λh=>?_|refine aQ c1 ?_|refine aQ c2 ?_|refine an d ?_|exact y5|fail)
  all_goals exact bK
 omega
theorem KC (l:List Int) (hl:l.length<=20000000000000) (args:Nat) (ha:args<=100):∀ dep:Int,-10<=dep->dep<=3->fL l dep args 3000:=by
 have up:∀ {B C:Nat} {dep:Int},B<=C->fL l dep args B->fL l dep args C:=λhbc h i hi=>by
  obtain⟨r,i',o,h⟩:=h i hi;exact⟨r,i',o.le hbc,h⟩
 have e0:∀ dep:Int,-10<=dep->dep<=0->fL l dep args 100:=λdep h1 h2=>KE l hl dep h1 h2 args ha
 have e1:fL l 1 args 302:=yO l hl 1 ac ac args 100 ha ac ac (e0 _ ac ac) (λh=>absurd h ac);have e2:fL l 2 args 908:=yO l hl 2 ac ac args 302 ha ac ac e1 (λ_=>up ac (e0 _ ac ac));have e3:fL l 3 args 2726:=yO l hl 3 ac ac args 908 ha ac ac e2 (λ_=>up ac e1);intro dep h1 h2;by_cases h:dep<=0
 ·exact up ac (e0 dep h1 h)
 ·rcases (aa:dep=1\/dep=2\/dep=3) with rfl|rfl|rfl
  ·exact up ac e1
  ·exact up ac e2
  ·exact up ac e3
inductive FiT (l:List Int):List By->Nat->List (List Nd)->Nat->Prop
 |nil (i:Nat):FiT l [] i [] i
 |skip {s:By} {ns:List By} {i i1 i2 i3 i' m q:Nat} {r1 r2 r3 r4 r5:List Nd} {K:List (List Nd)} (hq:q<20) (hm:m<12) (c:FQ 18 [cP,nI (3:Nat)] 1 (cW l i) (nI (2:Nat)) 1 (cW l i1)) (c2:FQ 18 [cP,nI (12:Nat)] 1 (cW l i1) (nI m) 1 (cW l i2))
  (d1:FQ 58 [.s (.int .u64 m)] 0 [] (al r1) 0 []) (d2:FQ 55 [nI 19,.s (dw [r1])] 0 [] (al r2) 0 []) (d3:FQ 56 [sV s] 0 [] (al r3) 0 []) (c3:FQ 18 [cP,nI (20:Nat)] 1 (cW l i2) (nI q) 1 (cW l i3))
  (d4:FQ 58 [.s (.int .u64 (1+(q:Int)))] 0 [] (al r4) 0 []) (d5:FQ 55 [nI 18,.s (dw [r3,r4])] 0 [] (al r5) 0 []) (t:FiT l ns i3 K i'):FiT l (s::ns) i (r2::r5::K) i'
 |unit {s:By} {ns:List By} {i i2 i3 i' k q:Nat} {r3 r4 r5:List Nd} {K:List (List Nd)} (hq:q<20) (hk: ¬(k:Int)=2) (c:FQ 18 [cP,nI (3:Nat)] 1 (cW l i) (nI k) 1 (cW l i2)) (d3:FQ 56 [sV s] 0 [] (al r3) 0 []) (c3:FQ 18 [cP,nI (20:Nat)] 1 (cW l i2) (nI q) 1 (cW l i3))
  (d4:FQ 58 [.s (.int .u64 (1+(q:Int)))] 0 [] (al r4) 0 []) (d5:FQ 55 [nI 18,.s (dw [r3,r4])] 0 [] (al r5) 0 []) (t:FiT l ns i3 K i'):FiT l (s::ns) i (r5::K) i'
theorem KA {l:List Int} {ns:List By} {i i':Nat} {K:List (List Nd)} (h:FiT l ns i K i'):K.length<=2*ns.length:=by
 induction h with
 |nil i=>simp
 |skip _ _ _ _ _ _ _ _ _ _ _ ih=>simp;omega
 |unit _ _ _ _ _ _ _ _ ih=>simp;omega
theorem Kz (l:List Int) (hl:l.length<=20000000000000):∀ (ns:List By) (i:Nat),i<=l.length->(∀ s∈ns,s.length<=1000)->∃ K i',FiT l ns i K i'/\i'<=l.length/\∀ r∈K,OKr 3 r
 |[],i,hi,_=>⟨[],i,.nil i,hi,λr hr=>by cases hr⟩
 |s::ns,i,hi,hs=>by
  obtain⟨k,i1,hk,hi1,c⟩:=aJ l hl 3 ac ac i hi;obtain⟨r3,o3,d3⟩:=cC s (hs s (Z17 ..));by_cases h2:k=2
  ·subst h2
   obtain⟨m,i2,hm,hi2,c2⟩:=aJ l hl 12 ac ac i1 hi1;obtain⟨r1,o1,d1⟩:=eg m aa;obtain⟨r2,o2,d2⟩:=aO 19 [r1] (B:=1) 3 ae aq aq aq;obtain⟨q,i3,hq,hi3,c3⟩:=aJ l hl 20 ac ac i2 hi2;obtain⟨r4,o4,d4⟩:=eg (1+(q:Int)) aa;obtain⟨r5,o5,d5⟩:=aO 18 [r3,r4] (B:=1) 3 ae aq aq aq
   obtain⟨K,i',h1,h2,h4⟩:=Kz l hl ns i3 hi3 λx hx=>hs x (Z0y _ hx)
   refine⟨r2::r5::K,i',.skip hq hm c c2 d1 d2 d3 c3 d4 d5 h1,h2,λx hx=>?_⟩
   grind
  ·obtain⟨q,i3,hq,hi3,c3⟩:=aJ l hl 20 ac ac i1 hi1
   obtain⟨r4,o4,d4⟩:=eg (1+(q:Int)) aa;obtain⟨r5,o5,d5⟩:=aO 18 [r3,r4] (B:=1) 3 ae aq aq aq
   obtain⟨K,i',h1,h2,h4⟩:=Kz l hl ns i3 hi3 λx hx=>hs x (Z0y _ hx)
   refine⟨r5::K,i',.unit hq aa c d3 c3 d4 d5 h1,h2,λx hx=>?_⟩
   grind
theorem wK (l:List Int) (hl:l.length<=20000000000000) (names:List By) (hn:names.length<=2) (hs:∀ s∈names,s.length<=1000) (idx:Bool) (wide:Nat) (hw:wide=0\/wide=2) (i:Nat) (hi:i<=l.length):
 ∃ (r:List Nd) (i':Nat),OKr 100 r/\i'<=l.length/\FQ 61 [cP,.s (bc names),bV idx,nI wide] 1 (cW l i) (al r) 1 (cW l i'):=by
 obtain⟨K,i1,hB,hi1,hK⟩:=Kz l hl names i hi hs;have hKl:=KA hB;obtain⟨k,i2,hk,hi2,c2⟩:=aJ l hl (wide+1) aa aa i1 hi1;obtain⟨m,i3,hm3,hi3,c3⟩:=aJ l hl 3 ac ac i2 hi2
 obtain⟨wd,hwd0,hwd⟩:∃ w:Int,0<=w/\w=(if k=0 then 1 else if k=1 then 2 else 4):=⟨_,ae,rfl⟩
 obtain⟨r1,o1,d1⟩:=eg wd hwd0;obtain⟨r2,o2,d2⟩:=eg m aa;obtain⟨rb,ob,db⟩:=aO 4 K (B:=3) 13 hK aa aa aa;obtain⟨f1,p1,e1⟩:=cC [70,49] ac;obtain⟨f2,p2,e2⟩:=cC [70,50] ac;obtain⟨g1,q1,e3⟩:=cC [82,49] ac;obtain⟨ra,oa,da⟩:=aO 17 [f1,f2,r1,r2,rb] (B:=13) 100 (by simp[p1.le,p2.le,o1.le,o2.le,ob]) aq aq aq;obtain⟨rc,oc,dc⟩:=aO 16 [g1,r1,r2,rb] (B:=13) 100 (by simp[q1.le,o1.le,o2.le,ob]) aq aq aq;unfold dw at da dc db;refine⟨if idx then ra else rc,i3,ae,hi3,?_⟩;unfold bc;have hsz:(Tryz.prog.types[32]).size=1:=aK;have hby:(Tryz.prog.types[32]).bytes=24:=aK;refine wW Tryz.func61 ?_
 repeat'(first|refine yA ?_|refine y2 ?_ ?_|refine y4 λh=>?_|exact y5|fail)
 refine gH 9 (.s (.row 1 2 0)) (VLe.s SLe.nilrow) rfl (Ex.upN (n':=3) aa ?_)
 refine cy (σ:=List By×Nat×Nat×List (List Nd)) (λs=>[(9,.s (.row 1 2 s.2.2.2.length)),(10,nI s.2.1)]) (λs=>[(0,some {cells:=[kM l,.int .i64 (s.2.2.1:Int)],ty:=97}),(1,ow 1 s.2.2.2)])
  (λs=>names.drop s.2.1=s.1/\s.2.1<=names.length/\∃ R,FiT l s.1 s.2.2.1 R i1/\s.2.2.2++R=K) (λs=>s.1.length) (names,0,i,[]) rfl (λ_=>rfl) ⟨rfl,Z08 _,K,hB,rfl⟩ aP ⟨rfl,trivial⟩ ?_
 rintro⟨rem,j,ci,D⟩ ⟨hj,hjl,R,hR,hD⟩;simp only at hj hjl hR hD |-;have hDK:D.length+R.length<=4:=ae
 cases hR with
 |nil=>
  have hj2: ¬j<names.length:=λh=>by rw[Z0k h] at hj;cases hj
  rw[Z0u] at hD;subst hD
  rcases hw with rfl|rfl
  ·obtain rfl:k=0:=aa
   subst hwd;cases idx
   all_goals
    cases D with
    |nil=>
     repeat'(first|refine y1 ?_|refine y2 ?_ ?_|refine y4 λh=>?_|refine aQ c2 ?_|refine aQ c3 ?_|refine an d1 ?_|refine an d2 ?_|refine an e1 ?_|refine an e2 ?_|refine an e3 ?_|(refine wX ?_;refine sC db rfl ⟨ah _,VLe.s SLe.row0,trivial⟩ rfl rfl rfl ?_)|refine wX (gB nS [] [f1,f2,r1,r2,rb] da ?_)|refine wX (gB nS [] [g1,r1,r2,rb] dc ?_)|exact aU ac ac|exact aB ac ac|refine y3 ?_|exact y5|fail)
     all_goals first
      |exact bK
      |omega
      |exact aU aa aa
      |exact aB aa aa
    |cons x D=>
     repeat'(first|refine y1 ?_|refine y2 ?_ ?_|refine y4 λh=>?_|refine aQ c2 ?_|refine aQ c3 ?_|refine an d1 ?_|refine an d2 ?_|refine an e1 ?_|refine an e2 ?_|refine an e3 ?_|(refine wX ?_;refine gB nS [] (x::D) db ?_)|refine wX (gB nS [] [f1,f2,r1,r2,rb] da ?_)|refine wX (gB nS [] [g1,r1,r2,rb] dc ?_)|exact aU ac ac|exact aB ac ac|refine y3 ?_|exact y5|fail)
     all_goals first
      |exact bK
      |omega
      |exact aU aa aa
      |exact aB aa aa
  ·rcases (aa:k=0\/k=1\/k=2) with rfl|rfl|rfl
   all_goals
    subst hwd;cases idx
    all_goals
     cases D with
     |nil=>
      repeat'(first|refine y1 ?_|refine y2 ?_ ?_|refine y4 λh=>?_|refine aQ c2 ?_|refine aQ c3 ?_|refine an d1 ?_|refine an d2 ?_|refine an e1 ?_|refine an e2 ?_|refine an e3 ?_|(refine wX ?_;refine sC db rfl ⟨ah _,VLe.s SLe.row0,trivial⟩ rfl rfl rfl ?_)|refine wX (gB nS [] [f1,f2,r1,r2,rb] da ?_)|refine wX (gB nS [] [g1,r1,r2,rb] dc ?_)|exact aU ac ac|exact aB ac ac|refine y3 ?_|exact y5|fail)
      all_goals first
       |exact bK
       |omega
       |exact aU aa aa
       |exact aB aa aa
     |cons x D=>
      repeat'(first|refine y1 ?_|refine y2 ?_ ?_|refine y4 λh=>?_|refine aQ c2 ?_|refine aQ c3 ?_|refine an d1 ?_|refine an d2 ?_|refine an e1 ?_|refine an e2 ?_|refine an e3 ?_|(refine wX ?_;refine gB nS [] (x::D) db ?_)|refine wX (gB nS [] [f1,f2,r1,r2,rb] da ?_)|refine wX (gB nS [] [g1,r1,r2,rb] dc ?_)|exact aU ac ac|exact aB ac ac|refine y3 ?_|exact y5|fail)
      all_goals first
       |exact bK
       |omega
       |exact aU aa aa
       |exact aB aa aa
 | @skip s ns _ j1 j2 j3 _ m' q r1' r2' r3' r4' r5' R' hq hm' c cc2 dd1 dd2 dd3 cc3 dd4 dd5 t=>
   have hjl2:j<names.length:=by
    grind
   have hjs:names.drop (j+1)=ns/\names.getD j []=s:=by
    rw[Z0k hjl2] at hj
    grind
   simp only[Z04] at hDK;unfold dw at dd2 dd5;rw[<-hjs.2] at dd3
   repeat'(first|refine y1 ?_|refine y2 ?_ ?_|refine y4 λh=>?_|refine aQ c ?_|refine aQ cc2 ?_|refine aQ cc3 ?_|refine an dd1 ?_|refine an dd4 ?_|refine an dd3 ?_|refine wX (gB nS [] [r1'] dd2 ?_)|refine wX (gB nS [] [r3',r4'] dd5 ?_)|refine gZ (i:=1) (g:=2) (m:=D.length) (w:=1) (cs:=D.map λr=>nS r) (foot:=[4]) (k:=1) (add:=[nS r2']) rfl rfl aq rfl rfl rfl rfl rfl rfl rfl hsz ac rfl ⟨Z02 _,rfl⟩ ac aq rfl (by rw[hby];omega) aa rfl ?_|refine gZ (i:=5) (g:=6) (m:=D.length+1) (w:=1) (cs:=(D.map λr=>nS r)++[nS r2']) (foot:=[8]) (k:=1) (add:=[nS r5']) rfl rfl aq rfl rfl rfl rfl rfl rfl rfl hsz ac rfl ⟨Z02 _,rfl⟩ ac aq rfl (by rw[hby];omega) aa rfl ?_|refine y3 ?_|exact y5|fail)
   all_goals try first
    |exact aB (by push_cast;omega) (by push_cast;omega)
    |omega
   refine fX (ns,j+1,j3,D++[r2',r5']) ⟨hjs.1,hjl2,R',t,ae⟩ (by first|(simp only;omega)|(simp only[Z04];omega)) [0,9,10] rfl ?_ ?_ ?_
   ·repeat' (first|exact ah _|exact dd _|exact Z0o|exact bB (congrArg nI (by push_cast;omega))|(refine bB (congrArg V.s (?_:S.row 9 10 _=S.row 9 10 _));simp;done)|refine⟨?_,?_⟩)
   ·refine⟨rfl,bh ?_ trivial⟩
    rw[show List.map (λr=>nS r) (D++[r2',r5'])=((D.map λr=>nS r)++[nS r2'])++[nS r5'] from by simp];rfl
   ·exact (by unfold ow;generalize List.map _ _=cg;cases cg<;>rfl)
 | @unit s ns _ j2 j3 _ k' q r3' r4' r5' R' hq hk' c dd3 cc3 dd4 dd5 t=>
   have hjl2:j<names.length:=by
    grind
   have hjs:names.drop (j+1)=ns/\names.getD j []=s:=by
    rw[Z0k hjl2] at hj
    grind
   simp only[Z04] at hDK;unfold dw at dd5;rw[<-hjs.2] at dd3
   repeat'(first|refine y1 ?_|refine y2 ?_ ?_|refine y4 λh=>?_|refine aQ c ?_|refine aQ cc3 ?_|refine an dd4 ?_|refine an dd3 ?_|refine wX (gB nS [] [r3',r4'] dd5 ?_)|refine gZ (i:=1) (g:=2) (m:=D.length) (w:=1) (cs:=D.map λr=>nS r) (foot:=[4]) (k:=1) (add:=[nS r5']) rfl rfl aq rfl rfl rfl rfl rfl rfl rfl hsz ac rfl ⟨Z02 _,rfl⟩ ac aq rfl (by rw[hby];omega) aa rfl ?_|refine y3 ?_|exact y5|fail)
   all_goals try first
    |exact aB (by push_cast;omega) (by push_cast;omega)
    |omega
   refine fX (ns,j+1,j3,D++[r5']) ⟨hjs.1,hjl2,R',t,ae⟩ (by first|(simp only;omega)|(simp only[Z04];omega)) [0,5,6] rfl ?_ ?_ ?_
   ·repeat' (first|exact ah _|exact dd _|exact Z0o|exact bB (congrArg nI (by push_cast;omega))|(refine bB (congrArg V.s (?_:S.row 5 6 _=S.row 5 6 _));simp;done)|refine⟨?_,?_⟩)
   ·refine⟨rfl,bh ?_ trivial⟩
    rw[Z0d];rfl
   ·exact (by unfold ow;generalize List.map _ _=cg;cases cg<;>rfl)
