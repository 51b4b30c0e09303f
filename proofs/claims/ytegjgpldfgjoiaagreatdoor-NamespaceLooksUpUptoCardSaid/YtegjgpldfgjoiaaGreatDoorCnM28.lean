import Derived.Test.YtegjgpldfgjoiaaGreatDoorCnM20
import Derived.Test.YtegjgpldfgjoiaaGreatDoorCnM26
set_option linter.all false
namespace Go.Proofs.YtegjgpldfgjoiaaGreatDoor
open Go Ab
set_option maxRecDepth 100000
set_option maxHeartbeats 40000000
theorem qP (l:List Int) (hl:l.length<=20000000000000) (dep:Int) (h1: -1<=dep) (h2:dep<=3) (args:Nat) (ha:args<=100) (B:Nat) (hB1:3000<=B) (hB2:B<=10000000000) (hB:0<dep->∀ loop,BlockE l (dep-1) args loop B) (loop:Bool):
 D5 l dep args loop (12100+3*B):=by
 intro i hi
 have eE:∀ d:Int,-10<=d->d<=3->e_ l d args 3000:=λd p q=>Ib l hl args ha d p q
 obtain⟨k,i1,hk,hi1,c1⟩:=ax l hl 14 ac ac i hi;by_cases hc:k=1/\0<dep
 ·obtain⟨rfl,hd⟩:=hc
  obtain⟨q,i2,hq,hi2,c2⟩:=ax l hl 2 ac ac i1 hi1;obtain⟨r1,i3,o1,hi3,c3⟩:=eE 1 ac ac i2 hi2;obtain⟨r2,i4,o2,hi4,c4⟩:=hB hd loop i3 hi3;by_cases hq0:q=0
  ·subst hq0
   obtain⟨r,o,dn⟩:=aP 31 [r1,r2] (B:=B) (12100+3*B) (by simp[o1.le hB1,o2]) (by first|(simp;done)|(simp;omega)) an (by first|(simp;done)|(simp;omega));unfold cq at dn;refine⟨r,i4,o,hi4,?_⟩;refine wW Tryz.func168 ?_
   repeat'(first|exact y0|refine y1 ?_|refine y2 ?_ ?_|refine y4 λh=>?_|refine wX 18 (cm c1 ?_)|refine wX 18 (cm c2 ?_)|refine wX 218 (cm c3 ?_)|refine wX 104 (cm c4 ?_)|refine wX 55 (fw nS [] [r1,r2] dn ?_)|refine y3 ?_|exact y5|fail)
   all_goals first
    |exact bh
    |omega
    |exact aj aa aa
    |exact ae aa aa
  ·obtain⟨r3,i5,o3,hi5,c5⟩:=hB hd loop i4 hi4
   obtain⟨r,o,dn⟩:=aP 31 [r1,r2,r3] (B:=B) (12100+3*B) (by simp[o1.le hB1,o2,o3]) (by first|(simp;done)|(simp;omega)) an (by first|(simp;done)|(simp;omega));unfold cq at dn;refine⟨r,i5,o,hi5,?_⟩;refine wW Tryz.func168 ?_
   repeat'(first|exact y0|refine y1 ?_|refine y2 ?_ ?_|refine y4 λh=>?_|refine wX 18 (cm c1 ?_)|refine wX 18 (cm c2 ?_)|refine wX 218 (cm c3 ?_)|refine wX 104 (cm c4 ?_)|refine wX 104 (cm c5 ?_)|refine wX 55 (fw nS [] [r1,r2,r3] dn ?_)|refine y3 ?_|exact y5|fail)
   all_goals first
    |exact bh
    |omega
    |exact aj aa aa
    |exact ae aa aa
 by_cases hc:k=2/\0<dep
 ·obtain⟨rfl,hd⟩:=hc
  obtain⟨r1,i3,o1,hi3,c3⟩:=eE 1 ac ac i1 hi1;obtain⟨r2,i4,o2,hi4,c4⟩:=hB hd true i3 hi3;obtain⟨r,o,dn⟩:=aP 32 [r1,r2] (B:=B) (12100+3*B) (by simp[o1.le hB1,o2]) (by first|(simp;done)|(simp;omega)) an (by first|(simp;done)|(simp;omega));unfold cq at dn;refine⟨r,i4,o,hi4,?_⟩;refine wW Tryz.func168 ?_
  repeat'(first|exact y0|refine y1 ?_|refine y2 ?_ ?_|refine y4 λh=>?_|refine wX 18 (cm c1 ?_)|refine wX 218 (cm c3 ?_)|refine wX 104 (cm c4 ?_)|refine wX 55 (fw nS [] [r1,r2] dn ?_)|refine y3 ?_|exact y5|fail)
  all_goals first
   |exact bh
   |omega
   |exact aj aa aa
   |exact ae aa aa
 by_cases hc:k=3
 ·subst hc
  obtain⟨r1,i3,o1,hi3,c3⟩:=eE dep aa h2 i1 hi1;obtain⟨r,o,dn⟩:=aP 33 [r1] (B:=B) (12100+3*B) (by simp[o1.le hB1]) (by first|(simp;done)|(simp;omega)) an (by first|(simp;done)|(simp;omega));unfold cq at dn;refine⟨r,i3,o,hi3,?_⟩;refine wW Tryz.func168 ?_
  repeat'(first|exact y0|refine y1 ?_|refine y2 ?_ ?_|refine y4 λh=>?_|refine wX 18 (cm c1 ?_)|refine wX 218 (cm c3 ?_)|refine wX 55 (fw nS [] [r1] dn ?_)|refine y3 ?_|exact y5|fail)
  all_goals first
   |exact bh
   |omega
   |exact aj aa aa
   |exact ae aa aa
 by_cases hc:k=4/\loop=true
 ·obtain⟨rfl,rfl⟩:=hc
  obtain⟨r,o,dn⟩:=aP 34 [] (B:=0) 1 (λr hr=>by cases hr) an an an;unfold cq at dn;refine⟨r,i1,o.le aa,hi1,?_⟩;refine wW Tryz.func168 ?_
  repeat'(first|exact y0|refine y1 ?_|refine y2 ?_ ?_|refine y4 λh=>?_|refine wX 18 (cm c1 ?_)|(refine wX 55 ?_;refine CallG.we dn rfl ⟨VLe.refl _,VLe.s SLe.nil,trivial⟩ rfl rfl rfl ?_)|refine y3 ?_|exact y5|fail)
  all_goals first
   |exact bh
   |omega
   |exact aj aa aa
   |exact ae aa aa
 by_cases hc:k=5/\loop=true
 ·obtain⟨rfl,rfl⟩:=hc
  obtain⟨r,o,dn⟩:=aP 35 [] (B:=0) 1 (λr hr=>by cases hr) an an an;unfold cq at dn;refine⟨r,i1,o.le aa,hi1,?_⟩;refine wW Tryz.func168 ?_
  repeat'(first|exact y0|refine y1 ?_|refine y2 ?_ ?_|refine y4 λh=>?_|refine wX 18 (cm c1 ?_)|(refine wX 55 ?_;refine CallG.we dn rfl ⟨VLe.refl _,VLe.s SLe.nil,trivial⟩ rfl rfl rfl ?_)|refine y3 ?_|exact y5|fail)
  all_goals first
   |exact bh
   |omega
   |exact aj aa aa
   |exact ae aa aa
 by_cases hc:k=6
 ·subst hc
  obtain⟨r1,o1,d1⟩:=cY [77,84,88] ac;obtain⟨r,o,dn⟩:=aP 36 [r1] (B:=B) (12100+3*B) (by simp[o1.le (show 1<=B by omega)]) (by first|(simp;done)|(simp;omega)) an (by first|(simp;done)|(simp;omega));unfold cq at dn;refine⟨r,i1,o,hi1,?_⟩;refine wW Tryz.func168 ?_
  repeat'(first|exact y0|refine y1 ?_|refine y2 ?_ ?_|refine y4 λh=>?_|refine wX 18 (cm c1 ?_)|refine wX 56 (pu d1 ?_)|refine wX 55 (fw nS [] [r1] dn ?_)|refine y3 ?_|exact y5|fail)
  all_goals first
   |exact bh
   |omega
   |exact aj aa aa
   |exact ae aa aa
 by_cases hc:k=7
 ·subst hc
  obtain⟨q,i2,hq,hi2,c2⟩:=ax l hl 2 ac ac i1 hi1;obtain⟨r1,o1,d1⟩:=cY [69,86,84] ac;obtain⟨r,o,dn⟩:=aP (37+(q:Int)) [r1] (B:=B) (12100+3*B) (by simp[o1.le (show 1<=B by omega)]) (by first|(simp;done)|(simp;omega)) an (by first|(simp;done)|(simp;omega));unfold cq at dn;refine⟨r,i2,o,hi2,?_⟩;refine wW Tryz.func168 ?_
  repeat'(first|exact y0|refine y1 ?_|refine y2 ?_ ?_|refine y4 λh=>?_|refine wX 18 (cm c1 ?_)|refine wX 18 (cm c2 ?_)|refine wX 56 (pu d1 ?_)|refine wX 55 (fw nS [] [r1] dn ?_)|refine y3 ?_|exact y5|fail)
  all_goals first
   |exact bh
   |omega
   |exact aj aa aa
   |exact ae aa aa
 by_cases hc:k=8
 ·subst hc
  obtain⟨q,i2,hq,hi2,c2⟩:=ax l hl 4 ac ac i1 hi1;obtain⟨r1,o1,d1⟩:=dy q aa;obtain⟨r,o,dn⟩:=aP 39 [r1] (B:=B) (12100+3*B) (by simp[o1.le (show 1<=B by omega)]) (by first|(simp;done)|(simp;omega)) an (by first|(simp;done)|(simp;omega));unfold cq at dn;refine⟨r,i2,o,hi2,?_⟩;refine wW Tryz.func168 ?_
  repeat'(first|exact y0|refine y1 ?_|refine y2 ?_ ?_|refine y4 λh=>?_|refine wX 18 (cm c1 ?_)|refine wX 18 (cm c2 ?_)|refine wX 58 (pu d1 ?_)|refine wX 55 (fw nS [] [r1] dn ?_)|refine y3 ?_|exact y5|fail)
  all_goals first
   |exact bh
   |omega
   |exact aj aa aa
   |exact ae aa aa
 by_cases hc:k=9
 ·subst hc
  obtain⟨s,i2,hs,hi2,c2⟩:=jM l hl i1 hi1;obtain⟨r1,o1,d1⟩:=cY s aa;obtain⟨r2,i3,o2,hi3,c3⟩:=eE 0 ac ac i2 hi2;obtain⟨r,o,dn⟩:=aP 40 [r1,r2] (B:=B) (12100+3*B) (by simp[o1.le (show 1<=B by omega),o2.le hB1]) (by first|(simp;done)|(simp;omega)) an (by first|(simp;done)|(simp;omega));unfold cq at dn;refine⟨r,i3,o,hi3,?_⟩;refine wW Tryz.func168 ?_
  repeat'(first|exact y0|refine y1 ?_|refine y2 ?_ ?_|refine y4 λh=>?_|refine wX 18 (cm c1 ?_)|refine wX 19 (cm c2 ?_)|refine wX 56 (pu d1 ?_)|refine wX 218 (cm c3 ?_)|refine wX 55 (fw nS [] [r1,r2] dn ?_)|refine y3 ?_|exact y5|fail)
  all_goals first
   |exact bh
   |omega
   |exact aj aa aa
   |exact ae aa aa
 by_cases hc:k=10
 ·subst hc
  obtain⟨r,i2,o,hi2,c2⟩:=Du l hl dep aa aa args 3000 ha ac ac (eE _ aa aa) i1 hi1;refine⟨r,i2,o.le aa,hi2,?_⟩;refine wW Tryz.func168 ?_
  repeat'(first|exact y0|refine y1 ?_|refine y2 ?_ ?_|refine y4 λh=>?_|refine wX 18 (cm c1 ?_)|refine wX 219 (cm c2 ?_)|refine y3 ?_|exact y5|fail)
  all_goals first
   |exact bh
   |omega
   |exact aj aa aa
   |exact ae aa aa
 by_cases hc:k=11
 ·subst hc
  obtain⟨r,i2,o,hi2,c2⟩:=AT l hl dep aa aa args 3000 ha ac ac (eE _ aa aa) i1 hi1;refine⟨r,i2,o.le aa,hi2,?_⟩;refine wW Tryz.func168 ?_
  repeat'(first|exact y0|refine y1 ?_|refine y2 ?_ ?_|refine y4 λh=>?_|refine wX 18 (cm c1 ?_)|refine wX 220 (cm c2 ?_)|refine y3 ?_|exact y5|fail)
  all_goals first
   |exact bh
   |omega
   |exact aj aa aa
   |exact ae aa aa
 obtain⟨r1,i2,o1,hi2,c2⟩:=eE dep aa h2 i1 hi1;obtain⟨r2,i3,o2,hi3,c3⟩:=nL l hl dep aa aa args 3000 ha ac ac (λ_=>eE _ aa aa) i2 hi2;obtain⟨r,o,dn⟩:=aP 30 [r1,r2] (B:=6001) 12003 (by simp[o1.le (show 3000<=6001 by decide),o2.le (show 1+2*3000<=6001 by decide)]) an an an;unfold cq at dn;refine⟨r,i3,o.le aa,hi3,?_⟩;by_cases k1:k=1
 ·subst k1
  have hd: ¬dep>0:=aa;refine wW Tryz.func168 ?_
  repeat'(first|exact y0|refine y1 ?_|refine y2 ?_ ?_|refine y4 λh=>?_|refine wX 18 (cm c1 ?_)|refine wX 218 (cm c2 ?_)|refine wX 221 (cm c3 ?_)|refine wX 55 (fw nS [] [r1,r2] dn ?_)|refine y3 ?_|exact y5|fail)
  all_goals first
   |exact bh
   |omega
   |exact aj aa aa
   |exact ae aa aa
 by_cases k2:k=2
 ·subst k2
  have hd: ¬dep>0:=aa;refine wW Tryz.func168 ?_
  repeat'(first|exact y0|refine y1 ?_|refine y2 ?_ ?_|refine y4 λh=>?_|refine wX 18 (cm c1 ?_)|refine wX 218 (cm c2 ?_)|refine wX 221 (cm c3 ?_)|refine wX 55 (fw nS [] [r1,r2] dn ?_)|refine y3 ?_|exact y5|fail)
  all_goals first
   |exact bh
   |omega
   |exact aj aa aa
   |exact ae aa aa
 by_cases k4:k=4
 ·subst k4
  have hl2:loop=false:=by cases loop<;>simp_all
  subst hl2;refine wW Tryz.func168 ?_
  repeat'(first|exact y0|refine y1 ?_|refine y2 ?_ ?_|refine y4 λh=>?_|refine wX 18 (cm c1 ?_)|refine wX 218 (cm c2 ?_)|refine wX 221 (cm c3 ?_)|refine wX 55 (fw nS [] [r1,r2] dn ?_)|refine y3 ?_|exact y5|fail)
  all_goals first
   |exact bh
   |omega
   |exact aj aa aa
   |exact ae aa aa
 by_cases k5:k=5
 ·subst k5
  have hl2:loop=false:=by cases loop<;>simp_all
  subst hl2;refine wW Tryz.func168 ?_
  repeat'(first|exact y0|refine y1 ?_|refine y2 ?_ ?_|refine y4 λh=>?_|refine wX 18 (cm c1 ?_)|refine wX 218 (cm c2 ?_)|refine wX 221 (cm c3 ?_)|refine wX 55 (fw nS [] [r1,r2] dn ?_)|refine y3 ?_|exact y5|fail)
  all_goals first
   |exact bh
   |omega
   |exact aj aa aa
   |exact ae aa aa
 refine wW Tryz.func168 ?_
 repeat'(first|exact y0|refine y1 ?_|refine y2 ?_ ?_|refine y4 λh=>?_|refine wX 18 (cm c1 ?_)|refine wX 218 (cm c2 ?_)|refine wX 221 (cm c3 ?_)|refine wX 55 (fw nS [] [r1,r2] dn ?_)|refine y3 ?_|exact y5|fail)
 all_goals first
  |exact bh
  |omega
  |exact aj aa aa
  |exact ae aa aa
theorem BlockE.up {l:List Int} {dep:Int} {args:Nat} {loop:Bool} {B C:Nat} (hbc:B<=C) (h:BlockE l dep args loop B):BlockE l dep args loop C:=λi hi=>by
 obtain⟨r,i',o,h⟩:=h i hi;exact⟨r,i',o.le hbc,h⟩
theorem FZ (l:List Int) (hl:l.length<=20000000000000) (args:Nat) (ha:args<=100):∀ dep:Int,0<=dep->dep<=3->∀ loop,BlockE l dep args loop 50000000:=by
 have s0:∀ loop,BlockE l 0 args loop (1+3*(12100+3*3000)):=λloop=>nk l hl 0 args loop _ ac (qP l hl 0 ac ac args ha 3000 ac ac (λh=>absurd h ac) loop)
 have s1:∀ loop,BlockE l 1 args loop (1+3*(12100+3*(1+3*(12100+3*3000)))):=λloop=>nk l hl 1 args loop _ ac (qP l hl 1 ac ac args ha _ ac ac (λ_ loop=>s0 loop) loop)
 have s2:∀ loop,BlockE l 2 args loop (1+3*(12100+3*(1+3*(12100+3*(1+3*(12100+3*3000)))))):=λloop=>nk l hl 2 args loop _ ac (qP l hl 2 ac ac args ha _ ac ac (λ_ loop=>s1 loop) loop)
 have s3:∀ loop,BlockE l 3 args loop (1+3*(12100+3*(1+3*(12100+3*(1+3*(12100+3*(1+3*(12100+3*3000)))))))):=λloop=>nk l hl 3 args loop _ ac (qP l hl 3 ac ac args ha _ ac ac (λ_ loop=>s2 loop) loop)
 intro dep h1 h2 loop
 rcases (aa:dep=0\/dep=1\/dep=2\/dep=3) with rfl|rfl|rfl|rfl
 ·exact (s0 loop).up ac
 ·exact (s1 loop).up ac
 ·exact (s2 loop).up ac
 ·exact (s3 loop).up ac
theorem B6 (l:List Int) (hl:l.length<=20000000000000) (s:By) (hs:s.length<=1000) (dep:Int) (h1:0<=dep) (h2:dep<=3) (i:Nat) (hi:i<=l.length):
 ∃ (r:List Nd) (i':Nat),OKr 300000000 r/\i'<=l.length/\FC Tryz.prog 59 [cP,sV s,nI dep] 1 (cc l i) (al r) 1 (cc l i'):=by
 obtain⟨k,i1,hk,hi1,c1⟩:=ax l hl 3 ac ac i hi;obtain⟨m,i2,hm2,hi2,c2⟩:=ax l hl 2 ac ac i1 hi1;obtain⟨q,i3,hq,hi3,c3⟩:=ax l hl 3 ac ac i2 hi2;obtain⟨rb,i4,ob,hi4,c4⟩:=FZ l hl k aa dep h1 h2 false i3 hi3;obtain⟨r1,o1,d1⟩:=cY s hs;obtain⟨r2,o2,d2⟩:=dy k aa;obtain⟨r3,o3,d3⟩:=dy m aa;obtain⟨r4,o4,d4⟩:=dy q aa;obtain⟨r,o,dn⟩:=aP 14 [r1,r2,r3,r4,rb] (B:=50000000) 300000000 (by simp[o1.le,o2.le,o3.le,o4.le,ob]) an an an;unfold cq at dn;refine⟨r,i4,o,hi4,?_⟩;refine wW Tryz.func59 ?_
 repeat'(first|exact y0|refine y1 ?_|refine y2 ?_ ?_|refine y4 λh=>?_|refine wX 18 (cm c1 ?_)|refine wX 18 (cm c2 ?_)|refine wX 18 (cm c3 ?_)|refine wX 56 (pu d1 ?_)|refine wX 58 (pu d2 ?_)|refine wX 58 (pu d3 ?_)|refine wX 58 (pu d4 ?_)|refine wX 104 (cm c4 ?_)|refine wX 55 (fw nS [] [r1,r2,r3,r4,rb] dn ?_)|refine y3 ?_|exact y5|fail)
 all_goals first
  |exact bh
  |omega
  |exact aj aa aa
  |exact ae aa aa
def mF (l:List Int) (dep:Int) (B:Nat):Prop:=∀ i,i<=l.length->∃ (r:List Nd) (i':Nat),OKr B r/\i'<=l.length/\FC Tryz.prog 22 [cP,nI dep] 1 (cc l i) (al r) 1 (cc l i')
def D6 (l:List Int) (dep:Int) (B:Nat):Prop:=∀ i,i<=l.length->∃ (r:List Nd) (i':Nat),OKr B r/\i'<=l.length/\FC Tryz.prog 57 [cP,nI dep] 1 (cc l i) (al r) 1 (cc l i')
inductive DcT (l:List Int) (dep:Int):Nat->Nat->List (List Nd)->Nat->Prop
 |nil (i:Nat):DcT l dep 0 i [] i
 |stop {n i:Nat} (c:FC Tryz.prog 46 [cP] 1 (cc l i) (bV false) 1 (cc l i)):DcT l dep (n+1) i [] i
 |cons {n i i1 i':Nat} {r:List Nd} {K:List (List Nd)} (c:FC Tryz.prog 46 [cP] 1 (cc l i) (bV true) 1 (cc l i)) (c2:FC Tryz.prog 22 [cP,nI dep] 1 (cc l i) (al r) 1 (cc l i1)) (hr:r≠[]) (t:DcT l dep n i1 K i'):DcT l dep (n+1) i (r::K) i'
theorem yy {l:List Int} {dep:Int} {n i i':Nat} {K:List (List Nd)} (h:DcT l dep n i K i'):K.length<=n:=by
 induction h with
 |nil i=>simp
 |stop _=>simp
 |cons _ _ _ _ ih=>simp;omega
theorem Ik (l:List Int) (hl:l.length<=20000000000000) (dep:Int) (B:Nat) (hS:mF l dep B):∀ (n i:Nat),i<=l.length->∃ K i',DcT l dep n i K i'/\i'<=l.length/\∀ r∈K,OKr B r
 |0,i,hi=>⟨[],i,.nil i,hi,λr hr=>by cases hr⟩
 |n+1,i,hi=>by
  obtain⟨b,hb,c⟩:=Ch l hl i hi
  cases b with
  |false=>exact⟨[],i,.stop c,hi,λr hr=>by cases hr⟩
  |true=>
   obtain⟨r,i1,o,hi1,c2⟩:=hS i hi;obtain⟨K,i',h1,h2,h4⟩:=Ik l hl dep B hS n i1 hi1;refine⟨r::K,i',.cons c c2 o.ne h1,h2,λq hq=>?_⟩
   rcases Z0h.1 hq with rfl|hq
   ·exact o
   ·exact h4 q hq
theorem yw (l:List Int) (hl:l.length<=20000000000000) (dep:Int) (B:Nat) (hB2:B<=100000000000) (hS:mF l dep B):D6 l dep (1+3*B):=by
 intro i hi;obtain⟨m,i2,hm2,hi2,c2⟩:=ax l hl 4 ac ac i hi;obtain⟨K,i3,hB,hi3,hK⟩:=Ik l hl dep B hS m i2 hi2;have hKl:=yy hB;have hKB:K.length*B<=3*B:=Z1w B aa;obtain⟨r,o,dn⟩:=aP 4 K (B:=B) (1+3*B) hK aa aa aa;unfold cq at dn;refine⟨r,i3,o,hi3,?_⟩
 have hsz:(Tryz.prog.types[32]).size=1:=by kernel_rfl
 have hby:(Tryz.prog.types[32]).bytes=24:=by kernel_rfl
 refine wW Tryz.func57 ?_
 repeat'(first|exact y0|refine y1 ?_|refine y2 ?_ ?_|refine y4 λh=>?_|refine wX 18 (cm c2 ?_)|refine y3 ?_|exact y5|fail)
 refine Ex.set 5 (.s (.row 1 2 0)) (VLe.s SLe.nilrow) rfl (Ex.upN (n':=3) aa ?_)
 refine Ex.inv (σ:=Nat×Nat×List (List Nd)) (λs=>[(5,.s (.row 1 2 s.2.2.length)),(6,nI s.1)]) (λs=>[(0,some {cells:=[mC l,.int .i64 (s.2.1:Int)],ty:=97}),(1,kO 1 s.2.2)])
  (λs=>∃ R,DcT l dep s.1 s.2.1 R i3/\s.2.2++R=K/\s.2.2.length+s.1<=3) (λs=>s.1) (m,i2,[]) rfl (λ_=>rfl) ⟨K,hB,rfl,by simp;omega⟩ aV ⟨rfl,trivial⟩ ?_
 rintro⟨n,j,D⟩ ⟨R,hR,hD,hDn⟩;simp only at hR hD hDn |-
 cases hR with
 |nil=>
  rw[Z0u] at hD;subst hD
  cases D with
  |nil=>
   repeat'(first|exact y0|refine y1 ?_|refine y2 ?_ ?_|refine y4 λh=>?_|(refine wX 55 ?_;refine CallG.we dn rfl ⟨VLe.refl _,VLe.s SLe.row0,trivial⟩ rfl rfl rfl ?_)|refine y3 ?_|exact y5|fail)
   all_goals first
    |exact bh
    |omega
    |exact aj aa aa
    |exact ae aa aa
  |cons x D=>
   repeat'(first|exact y0|refine y1 ?_|refine y2 ?_ ?_|refine y4 λh=>?_|(refine wX 55 ?_;refine fw nS [] (x::D) dn ?_)|refine y3 ?_|exact y5|fail)
   all_goals first
    |exact bh
    |omega
    |exact aj aa aa
    |exact ae aa aa
 |stop c=>
  rw[Z0u] at hD;subst hD
  cases D with
  |nil=>
   repeat'(first|exact y0|refine y1 ?_|refine y2 ?_ ?_|refine y4 λh=>?_|refine wX 46 (cm c ?_)|(refine wX 55 ?_;refine CallG.we dn rfl ⟨VLe.refl _,VLe.s SLe.row0,trivial⟩ rfl rfl rfl ?_)|refine y3 ?_|exact y5|fail)
   all_goals first
    |exact bh
    |omega
    |exact aj aa aa
    |exact ae aa aa
  |cons x D=>
   repeat'(first|exact y0|refine y1 ?_|refine y2 ?_ ?_|refine y4 λh=>?_|refine wX 46 (cm c ?_)|(refine wX 55 ?_;refine fw nS [] (x::D) dn ?_)|refine y3 ?_|exact y5|fail)
   all_goals first
    |exact bh
    |omega
    |exact aj aa aa
    |exact ae aa aa
 | @cons n _ j1 _ r' R' c cc2 hr t=>
   repeat'(first|exact y0|refine y1 ?_|refine y2 ?_ ?_|refine y4 λh=>?_|refine wX 46 (cm c ?_)|refine wX 22 (cm cc2 ?_)|refine RegX.apr (i:=1) (g:=2) (m:=D.length) (w:=1) (cs:=D.map λr=>nS r) (foot:=[3]) (k:=1) (add:=[nS r']) rfl rfl an rfl rfl rfl rfl rfl rfl rfl hsz ac rfl ⟨Z02 _,rfl⟩ ac an rfl (by rw[hby];omega) aa rfl ?_|refine y3 ?_|exact y5|fail)
   all_goals try first
    |exact ae (by push_cast;omega) (by push_cast;omega)
    |omega
   refine LoopR.move (n,j1,D++[r']) ⟨R',t,by simpa using hD,by simp;omega⟩ (by first|(simp only;omega)|(simp only[Z04];omega)) [0,4,5] rfl ?_ ?_ ?_
   ·repeat' (first|exact VLe.refl _|exact VLe.any _|exact Z0o|exact VLe.of_eq (congrArg nI (by push_cast;omega))|(refine VLe.of_eq (congrArg V.s (?_:S.row 4 5 _=S.row 4 5 _));simp;done)|refine⟨?_,?_⟩)
   ·refine⟨rfl,MemP.op ?_ trivial⟩
    rw[Z0d];rfl
   ·exact (by unfold kO;generalize List.map _ _=cg;cases cg<;>rfl)
theorem wP (l:List Int) (hl:l.length<=20000000000000) (dep:Int) (h1:0<=dep) (h2:dep<=2) (B:Nat) (hB1:300000000<=B) (hB2:B<=100000000000) (hB:0<dep->D6 l (dep-1) B):mF l dep (1+4*B):=by
 intro i hi;obtain⟨kn,i0,hkn,hi0,c0⟩:=ax l hl 10 ac ac i hi;obtain⟨s,hs,cs⟩:=GA kn hkn;obtain⟨k,i1,hk,hi1,c1⟩:=ax l hl 10 ac ac i0 hi0;obtain⟨r1,o1,d1⟩:=cY s aa;by_cases hc:k=1/\0<dep
 ·obtain⟨rfl,hd⟩:=hc
  obtain⟨r2,i2,o2,hi2,c2⟩:=hB hd i1 hi1;obtain⟨r,o,dn⟩:=aP 11 [r1,r2] (B:=B) (1+4*B) (by simp[o1.le (show 1<=B by omega),o2]) (by first|(simp;done)|(simp;omega)) an (by first|(simp;done)|(simp;omega));unfold cq at dn;refine⟨r,i2,o,hi2,?_⟩;refine wW Tryz.func22 ?_
  repeat'(first|exact y0|refine y1 ?_|refine y2 ?_ ?_|refine y4 λh=>?_|refine wX 18 (cm c0 ?_)|refine wX 18 (cm c1 ?_)|refine wX 37 (pu cs ?_)|refine wX 56 (pu d1 ?_)|refine wX 57 (cm c2 ?_)|refine wX 55 (fw nS [] [r1,r2] dn ?_)|refine y3 ?_|exact y5|fail)
  all_goals first
   |exact bh
   |omega
   |exact aj aa aa
   |exact ae aa aa
 by_cases hc:k=2/\0<dep
 ·obtain⟨rfl,hd⟩:=hc
  obtain⟨m,i2,hm2,hi2,c2⟩:=ax l hl 6 ac ac i1 hi1;obtain⟨q,i3,hq,hi3,c3⟩:=ax l hl 9 ac ac i2 hi2;obtain⟨r2,o2,d2⟩:=dy m aa;obtain⟨r3,o3,d3⟩:=dy q aa;obtain⟨r4,i4,o4,hi4,c4⟩:=hB hd i3 hi3;obtain⟨r,o,dn⟩:=aP 12 [r1,r2,r3,r4] (B:=B) (1+4*B) (by simp[o1.le (show 1<=B by omega),o2.le (show 1<=B by omega),o3.le (show 1<=B by omega),o4]) (by first|(simp;done)|(simp;omega)) an (by first|(simp;done)|(simp;omega));unfold cq at dn;refine⟨r,i4,o,hi4,?_⟩;refine wW Tryz.func22 ?_
  repeat'(first|exact y0|refine y1 ?_|refine y2 ?_ ?_|refine y4 λh=>?_|refine wX 18 (cm c0 ?_)|refine wX 18 (cm c1 ?_)|refine wX 37 (pu cs ?_)|refine wX 56 (pu d1 ?_)|refine wX 18 (cm c2 ?_)|refine wX 18 (cm c3 ?_)|refine wX 58 (pu d2 ?_)|refine wX 58 (pu d3 ?_)|refine wX 57 (cm c4 ?_)|refine wX 55 (fw nS [] [r1,r2,r3,r4] dn ?_)|refine y3 ?_|exact y5|fail)
  all_goals first
   |exact bh
   |omega
   |exact aj aa aa
   |exact ae aa aa
 by_cases hc:k=3/\0<dep
 ·obtain⟨rfl,hd⟩:=hc
  obtain⟨m,i2,hm2,hi2,c2⟩:=ax l hl 5 ac ac i1 hi1
  obtain⟨z,hz0,hz⟩:∃ z:By,z.length<=1000/\z=(if m=0 then [92] else if m=1 then [92,95,83,66] else if m=2 then [68,69,86,48] else if m=3 then [65] else [94]):=⟨_,by (repeat' split)<;>simp,rfl⟩
  obtain⟨r2,o2,d2⟩:=cY z hz0;obtain⟨r4,i4,o4,hi4,c4⟩:=hB hd i2 hi2;obtain⟨r,o,dn⟩:=aP 10 [r2,r4] (B:=B) (1+4*B) (by simp[o2.le (show 1<=B by omega),o4]) (by first|(simp;done)|(simp;omega)) an (by first|(simp;done)|(simp;omega));unfold cq at dn;refine⟨r,i4,o,hi4,?_⟩
  rcases (aa:m=0\/m=1\/m=2\/m=3\/m=4) with rfl|rfl|rfl|rfl|rfl<;>subst hz
  all_goals
   refine wW Tryz.func22 ?_
   repeat'(first|exact y0|refine y1 ?_|refine y2 ?_ ?_|refine y4 λh=>?_|refine wX 18 (cm c0 ?_)|refine wX 18 (cm c1 ?_)|refine wX 37 (pu cs ?_)|refine wX 56 (pu d1 ?_)|refine wX 18 (cm c2 ?_)|refine wX 56 (pu d2 ?_)|refine wX 57 (cm c4 ?_)|refine wX 55 (fw nS [] [r2,r4] dn ?_)|refine y3 ?_|exact y5|fail)
   all_goals first
    |exact bh
    |omega
    |exact aj aa aa
    |exact ae aa aa
 by_cases hc:k=4
 ·subst hc
  obtain⟨r,i2,o,hi2,c2⟩:=B6 l hl s aa 2 ac ac i1 hi1;refine⟨r,i2,o.le aa,hi2,?_⟩;refine wW Tryz.func22 ?_
  repeat'(first|exact y0|refine y1 ?_|refine y2 ?_ ?_|refine y4 λh=>?_|refine wX 18 (cm c0 ?_)|refine wX 18 (cm c1 ?_)|refine wX 37 (pu cs ?_)|refine wX 56 (pu d1 ?_)|refine wX 59 (cm c2 ?_)|refine y3 ?_|exact y5|fail)
  all_goals first
   |exact bh
   |omega
   |exact aj aa aa
   |exact ae aa aa
 by_cases hc:k=5
 ·subst hc
  obtain⟨r,i2,o,hi2,c2⟩:=BA l hl i1 hi1 s aa;refine⟨r,i2,o.le aa,hi2,?_⟩;refine wW Tryz.func22 ?_
  repeat'(first|exact y0|refine y1 ?_|refine y2 ?_ ?_|refine y4 λh=>?_|refine wX 18 (cm c0 ?_)|refine wX 18 (cm c1 ?_)|refine wX 37 (pu cs ?_)|refine wX 56 (pu d1 ?_)|refine wX 60 (cm c2 ?_)|refine y3 ?_|exact y5|fail)
  all_goals first
   |exact bh
   |omega
   |exact aj aa aa
   |exact ae aa aa
 by_cases hc:k=6
 ·subst hc
  obtain⟨q,i2,hq,hi2,c2⟩:=ax l hl 2 ac ac i1 hi1;by_cases hq0:q=0
  ·subst hq0
   obtain⟨r,i3,o,hi3,c3⟩:=uP l hl [s] an (by simp;omega) true 2 (.inr rfl) i2 hi2;unfold aE at c3;refine⟨r,i3,o.le aa,hi3,?_⟩;refine wW Tryz.func22 ?_
   repeat'(first|exact y0|refine y1 ?_|refine y2 ?_ ?_|refine y4 λh=>?_|refine wX 18 (cm c0 ?_)|refine wX 18 (cm c1 ?_)|refine wX 37 (pu cs ?_)|refine wX 56 (pu d1 ?_)|refine wX 18 (cm c2 ?_)|(refine wX 61 ?_;refine CallG.mz 1 S.str [] [s] (λ_ _=>rfl) [0] c3 rfl rfl rfl rfl rfl rfl rfl rfl rfl aV nC rfl rfl rfl ?_)|refine y3 ?_|exact y5|fail)
   all_goals first
    |exact bh
    |omega
    |exact aj aa aa
    |exact ae aa aa
  ·obtain⟨r,i3,o,hi3,c3⟩:=uP l hl [s] an (by simp;omega) false 2 (.inr rfl) i2 hi2
   unfold aE at c3;refine⟨r,i3,o.le aa,hi3,?_⟩;refine wW Tryz.func22 ?_
   repeat'(first|exact y0|refine y1 ?_|refine y2 ?_ ?_|refine y4 λh=>?_|refine wX 18 (cm c0 ?_)|refine wX 18 (cm c1 ?_)|refine wX 37 (pu cs ?_)|refine wX 56 (pu d1 ?_)|refine wX 18 (cm c2 ?_)|(refine wX 61 ?_;refine CallG.mz 1 S.str [] [s] (λ_ _=>rfl) [0] c3 rfl rfl rfl rfl rfl rfl rfl rfl rfl aV nC rfl rfl rfl ?_)|refine y3 ?_|exact y5|fail)
   all_goals first
    |exact bh
    |omega
    |exact aj aa aa
    |exact ae aa aa
 by_cases hc:k=7
 ·subst hc
  obtain⟨m,i2,hm2,hi2,c2⟩:=ax l hl 18 ac ac i1 hi1;obtain⟨r2,o2,d2⟩:=dy m aa;obtain⟨r,o,dn⟩:=aP 20 [r1,r2] (B:=1) 3 (by simp[o1,o2]) an an an;unfold cq at dn;refine⟨r,i2,o.le aa,hi2,?_⟩;refine wW Tryz.func22 ?_
  repeat'(first|exact y0|refine y1 ?_|refine y2 ?_ ?_|refine y4 λh=>?_|refine wX 18 (cm c0 ?_)|refine wX 18 (cm c1 ?_)|refine wX 37 (pu cs ?_)|refine wX 56 (pu d1 ?_)|refine wX 18 (cm c2 ?_)|refine wX 58 (pu d2 ?_)|refine wX 55 (fw nS [] [r1,r2] dn ?_)|refine y3 ?_|exact y5|fail)
  all_goals first
   |exact bh
   |omega
   |exact aj aa aa
   |exact ae aa aa
 by_cases hc:k=8
 ·subst hc
  obtain⟨r,o,dn⟩:=aP 21 [r1] (B:=1) 3 (by simp[o1]) an an an;unfold cq at dn;refine⟨r,i1,o.le aa,hi1,?_⟩;refine wW Tryz.func22 ?_
  repeat'(first|exact y0|refine y1 ?_|refine y2 ?_ ?_|refine y4 λh=>?_|refine wX 18 (cm c0 ?_)|refine wX 18 (cm c1 ?_)|refine wX 37 (pu cs ?_)|refine wX 56 (pu d1 ?_)|refine wX 55 (fw nS [] [r1] dn ?_)|refine y3 ?_|exact y5|fail)
  all_goals first
   |exact bh
   |omega
   |exact aj aa aa
   |exact ae aa aa
 obtain⟨r2,i2,o2,hi2,c2⟩:=sj l hl 2 ac i1 hi1;obtain⟨r,o,dn⟩:=aP 13 [r1,r2] (B:=1000) 2001 (by simp[o1.le (show 1<=1000 by decide),o2.le (show 10^(2+1)<=1000 by decide)]) an an an;unfold cq at dn;refine⟨r,i2,o.le aa,hi2,?_⟩;by_cases k1:k=1
 ·subst k1
  have hd: ¬dep>0:=aa;refine wW Tryz.func22 ?_
  repeat'(first|exact y0|refine y1 ?_|refine y2 ?_ ?_|refine y4 λh=>?_|refine wX 18 (cm c0 ?_)|refine wX 18 (cm c1 ?_)|refine wX 37 (pu cs ?_)|refine wX 56 (pu d1 ?_)|refine wX 62 (cm c2 ?_)|refine wX 55 (fw nS [] [r1,r2] dn ?_)|refine y3 ?_|exact y5|fail)
  all_goals first
   |exact bh
   |omega
   |exact aj aa aa
   |exact ae aa aa
 by_cases k2:k=2
 ·subst k2
  have hd: ¬dep>0:=aa;refine wW Tryz.func22 ?_
  repeat'(first|exact y0|refine y1 ?_|refine y2 ?_ ?_|refine y4 λh=>?_|refine wX 18 (cm c0 ?_)|refine wX 18 (cm c1 ?_)|refine wX 37 (pu cs ?_)|refine wX 56 (pu d1 ?_)|refine wX 62 (cm c2 ?_)|refine wX 55 (fw nS [] [r1,r2] dn ?_)|refine y3 ?_|exact y5|fail)
  all_goals first
   |exact bh
   |omega
   |exact aj aa aa
   |exact ae aa aa
 by_cases k3:k=3
 ·subst k3
  have hd: ¬dep>0:=aa;refine wW Tryz.func22 ?_
  repeat'(first|exact y0|refine y1 ?_|refine y2 ?_ ?_|refine y4 λh=>?_|refine wX 18 (cm c0 ?_)|refine wX 18 (cm c1 ?_)|refine wX 37 (pu cs ?_)|refine wX 56 (pu d1 ?_)|refine wX 62 (cm c2 ?_)|refine wX 55 (fw nS [] [r1,r2] dn ?_)|refine y3 ?_|exact y5|fail)
  all_goals first
   |exact bh
   |omega
   |exact aj aa aa
   |exact ae aa aa
 refine wW Tryz.func22 ?_
 repeat'(first|exact y0|refine y1 ?_|refine y2 ?_ ?_|refine y4 λh=>?_|refine wX 18 (cm c0 ?_)|refine wX 18 (cm c1 ?_)|refine wX 37 (pu cs ?_)|refine wX 56 (pu d1 ?_)|refine wX 62 (cm c2 ?_)|refine wX 55 (fw nS [] [r1,r2] dn ?_)|refine y3 ?_|exact y5|fail)
 all_goals first
  |exact bh
  |omega
  |exact aj aa aa
  |exact ae aa aa
theorem Ij (l:List Int) (hl:l.length<=20000000000000):mF l 2 200000000000:=by
 have d0:mF l 0 (1+4*300000000):=wP l hl 0 ac ac 300000000 ac ac (λh=>absurd h ac);have d1:mF l 1 (1+4*(1+3*(1+4*300000000))):=wP l hl 1 ac ac _ ac ac (λ_=>yw l hl 0 _ ac d0);have d2:mF l 2 (1+4*(1+3*(1+4*(1+3*(1+4*300000000))))):=wP l hl 2 ac ac _ ac ac (λ_=>yw l hl 1 _ ac d1);intro i hi;obtain⟨r,i',o,h⟩:=d2 i hi;exact⟨r,i',o.le ac,h⟩
abbrev ndB (g:Nat) (D:List Nd):Option Bl:=eI 49 (g+1) 4 (D.flatMap ndC)
theorem Js (r:List Nd):(r.flatMap ndC).all bM=true:=by
 induction r with
 |nil=>rfl
 |cons x r ih=>rw[Z0g,Z1g,ih];rfl
theorem Jt {r:List Nd} (h:r≠[]):r.flatMap ndC≠[]:=by
 cases r with
 |nil=>exact absurd rfl h
 |cons x r=>simp[ndC]
structure PgOK (p:List Nd):Prop where
 v:cy p=true
 wf:∀ x∈p,x.str.length<=1000/\0<=x.int
theorem pT:cy []=true:=ac
theorem FD {B:Nat} {K:List (List Nd)} (h:∀ r∈K,OKr B r):∀ x∈K.flatten,x.str.length<=1000/\0<=x.int:=λx hx=>by
 obtain⟨r,hr,hx⟩:=List.mem_flatten.1 hx;exact (h r hr).wf x hx
theorem zw (l:List Int) (hl:l.length<=20000000000000) (B:Nat) (hBB:B<=200000000000) (hDE:mF l 2 B):∃ p,PgOK p/\FC Tryz.prog 14 [.s (mC l)] 0 [] (al p) 0 []:=by
 obtain⟨m,i2,hm2,hi2,c2⟩:=ax l hl 5 ac ac 0 (Z08 _);obtain⟨K,i3,hB,hi3,hK⟩:=Ik l hl 2 B hDE (m+1) i2 hi2;have hKl:=yy hB;have hKf:=FD hK;have hKn:=gf hK;have hKm:K.length*B<=5*B:=Z1w _ aa;have hflen:K.flatten.length<=1000000000000:=aa;clear hKm hKn hBB
 have hw:pn K.flatten:=λx hx=>by have:=(hKf x hx).1;omega
 have hv:=fB K.flatten hw;have hv0:=fB [] (λx hx=>by cases hx);rw[pT] at hv0;have hnew:=GK l
 have hsz:(Tryz.prog.types[49]).size=4:=by kernel_rfl
 have hby:(Tryz.prog.types[49]).bytes=40:=by kernel_rfl
 refine⟨if cy K.flatten then K.flatten else [],?_,?_⟩
 ·split
  ·exact⟨by assumption,hKf⟩
  ·exact⟨pT,λx hx=>by cases hx⟩
 refine wW Tryz.func14 ?_
 repeat'(first|exact y0|refine y1 ?_|refine y2 ?_ ?_|refine y4 λh=>?_|refine wX 16 (cf [] hnew ?_)|refine wX 18 (cm c2 ?_)|refine y3 ?_|exact y5|fail)
 all_goals try exact y7
 refine Ex.set 4 (.s (.row 1 2 0)) (VLe.s SLe.nilrow) rfl (Ex.upN (n':=3) aa ?_)
 refine Ex.inv (σ:=Nat×Nat×List Nd) (λs=>[(4,.s (.row 1 2 s.2.2.length)),(5,nI s.1)]) (λs=>[(0,some {cells:=[mC l,.int .i64 (s.2.1:Int)],ty:=97}),(1,ndB 1 s.2.2)])
  (λs=>s.1<=5/\∃ R,DcT l 2 s.1 s.2.1 R i3/\s.2.2++R.flatten=K.flatten/\(∀ r∈R,OKr B r)) (λs=>s.1) (m+1,i2,[]) rfl (λ_=>rfl) ⟨by simp only;omega,K,hB,rfl,hK⟩ ⟨VLe.refl _,VLe.of_eq (congrArg nI (by push_cast;omega)),trivial⟩ ⟨rfl,trivial⟩ ?_
 rintro⟨n,j,D⟩ ⟨hn5,R,hR,hD,hRK⟩;simp only at hn5 hR hD hRK |-
 cases hR with
 |nil=>
  rw[Z51,Z0u] at hD;rw[<-hD] at hv |-;clear hD hw hKf
  cases D with
  |nil=>
   rw[show (if cy []=true then ([]:List Nd) else [])=[] by split<;>rfl];refine Ex.set 4 (al []) (VLe.s SLe.row0) rfl ?_
   repeat'(first|exact y0|refine y1 ?_|refine y2 ?_ ?_|refine y4 λh=>?_|refine wX 47 (bo hv0 ?_)|refine Fin.le (.inl rfl) rfl (VLe.refl _) rfl|refine y3 ?_|exact y5|fail)
  |cons d D=>
   cases hV:cy (d::D)<;>rw[hV] at hv
   all_goals simp only[Z0l,if_false,if_true]
   ·
    refine Ex.fz 4 (λk=>ndC ((d::D).getD k dN)) 4 rfl rfl rfl rfl (λ_ _=>rfl) (λk j s hk hs=>jf hk hs) rfl rfl ?_
    repeat'(first|exact y0|refine y1 ?_|refine y2 ?_ ?_|refine y4 λh=>?_|refine wX 47 (bo hv ?_)|refine Fin.le (.inl rfl) rfl (VLe.s SLe.nil) rfl|refine y3 ?_|exact y5|fail)
   ·
    refine Ex.fz 4 (λk=>ndC ((d::D).getD k dN)) 4 rfl rfl rfl rfl (λ_ _=>rfl) (λk j s hk hs=>jf hk hs) rfl rfl ?_
    repeat'(first|exact y0|refine y1 ?_|refine y2 ?_ ?_|refine y4 λh=>?_|refine wX 47 (bo hv ?_)|refine Fin.le (.inl rfl) rfl (VLe.refl _) rfl|refine y3 ?_|exact y5|fail)
 |stop c=>
  rw[Z51,Z0u] at hD;rw[<-hD] at hv |-;clear hD hw hKf
  cases D with
  |nil=>
   rw[show (if cy []=true then ([]:List Nd) else [])=[] by split<;>rfl];refine Ex.set 4 (al []) (VLe.s SLe.row0) rfl ?_
   repeat'(first|exact y0|refine y1 ?_|refine y2 ?_ ?_|refine y4 λh=>?_|refine wX 46 (cm c ?_)|refine wX 47 (bo hv0 ?_)|refine Fin.le (.inl rfl) rfl (VLe.refl _) rfl|refine y3 ?_|exact y5|fail)
  |cons d D=>
   cases hV:cy (d::D)<;>rw[hV] at hv
   all_goals simp only[Z0l,if_false,if_true]
   ·
    refine Ex.fz 4 (λk=>ndC ((d::D).getD k dN)) 4 rfl rfl rfl rfl (λ_ _=>rfl) (λk j s hk hs=>jf hk hs) rfl rfl ?_
    repeat'(first|exact y0|refine y1 ?_|refine y2 ?_ ?_|refine y4 λh=>?_|refine wX 46 (cm c ?_)|refine wX 47 (bo hv ?_)|refine Fin.le (.inl rfl) rfl (VLe.s SLe.nil) rfl|refine y3 ?_|exact y5|fail)
   ·
    refine Ex.fz 4 (λk=>ndC ((d::D).getD k dN)) 4 rfl rfl rfl rfl (λ_ _=>rfl) (λk j s hk hs=>jf hk hs) rfl rfl ?_
    repeat'(first|exact y0|refine y1 ?_|refine y2 ?_ ?_|refine y4 λh=>?_|refine wX 46 (cm c ?_)|refine wX 47 (bo hv ?_)|refine Fin.le (.inl rfl) rfl (VLe.refl _) rfl|refine y3 ?_|exact y5|fail)
 | @cons n _ j1 _ r' R' c cc2 hr t=>
   have ho:=hRK r' (Z17 ..);have hrl:1<=r'.length:=Z1s.2 hr;have hol:=ho.len
   have hDl:D.length+r'.length<=1000000000000:=by
    have:=congrArg List.length hD;rw[Z4w,Z03,Z03] at this;omega
   repeat'(first|exact y0|refine y1 ?_|refine y2 ?_ ?_|refine y4 λh=>?_|refine wX 46 (cm c ?_)|refine wX 22 (cm cc2 ?_)|refine y3 ?_|exact y5|fail)
   refine RegX.apr (i:=1) (g:=2) (m:=D.length) (w:=4) (cs:=D.flatMap ndC) (foot:=[]) (k:=r'.length) (add:=eP (λk=>ndC (r'.getD k dN)) r'.length) rfl rfl (by rw[rF]) rfl rfl rfl rfl rfl rfl rfl hsz ac rfl ?_ hrl (by rw[fg];exact Jt hr) (by rw[fg];exact Js _) (by rw[hby];omega) aa rfl ?_
   ·trivial
   repeat'(first|exact y0|refine y1 ?_|refine y2 ?_ ?_|refine y4 λh=>?_|refine y3 ?_|exact y5|fail)
   all_goals try first
    |exact ae (by push_cast;omega) (by push_cast;omega)
    |omega
   refine LoopR.move (n,j1,D++r') ⟨by simp only;omega,R',t,by simpa using hD,λq hq=>hRK q (Z0y _ hq)⟩ (by simp only;omega) [0,3,4] rfl ?_ ?_ ?_
   ·repeat' (first|exact VLe.refl _|exact VLe.any _|exact Z0o|exact VLe.of_eq (congrArg nI (by push_cast;omega))|(refine VLe.of_eq (congrArg V.s (?_:S.row 3 4 _=S.row 3 4 _));simp;done)|refine⟨?_,?_⟩)
   ·refine⟨rfl,MemP.op ?_ trivial⟩
    rw[Z0r,<-fg r'];rfl
   ·unfold ndB;generalize List.flatMap _ _=cg;cases cg<;>rfl
theorem qa (l:List Int) (hl:l.length<=20000000000000):∃ p,PgOK p/\FC Tryz.prog 14 [.s (mC l)] 0 [] (al p) 0 []:=zw l hl 200000000000 (Z02 _) (Ij l hl)
end Go.Proofs.YtegjgpldfgjoiaaGreatDoor
