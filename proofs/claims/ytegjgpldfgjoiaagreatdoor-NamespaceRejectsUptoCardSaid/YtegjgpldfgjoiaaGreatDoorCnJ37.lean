import Derived.Test.YtegjgpldfgjoiaaGreatDoorCnJ26
import Derived.Test.YtegjgpldfgjoiaaGreatDoorCnJ32
set_option linter.all false
set_option maxHeartbeats 40000000
set_option maxRecDepth 100000
namespace Go.Proofs.YtegjgpldfgjoiaaGreatDoor
open Go Ab
def Gj (l:List Int) (dep:Int) (args:Nat) (loop:Bool) (B:Nat):Prop:=∀ i,i<=l.length->∃ (r:List Nd) (i':Nat),OKr B r/\i'<=l.length/\FQ 168 [cP,nI dep,nI args,bV loop] 1 (cW l i) (al r) 1 (cW l i')
def BlockE (l:List Int) (dep:Int) (args:Nat) (loop:Bool) (B:Nat):Prop:=∀ i,i<=l.length->∃ (r:List Nd) (i':Nat),OKr B r/\i'<=l.length/\FQ 104 [cP,nI dep,nI args,bV loop] 1 (cW l i) (al r) 1 (cW l i')
inductive BlT (l:List Int) (dep:Int) (args:Nat) (loop:Bool):Nat->Nat->List (List Nd)->Nat->Prop
 |nil (i:Nat):BlT l dep args loop 0 i [] i
 |stop {n i:Nat} (c:FQ 46 [cP] 1 (cW l i) (bV false) 1 (cW l i)):BlT l dep args loop (n+1) i [] i
 |last {n i i1:Nat} {x:Nd} {r:List Nd} (c:FQ 46 [cP] 1 (cW l i) (bV true) 1 (cW l i)) (c2:FQ 168 [cP,nI dep,nI args,bV loop] 1 (cW l i) (al (x::r)) 1 (cW l i1))
  (ho:x.op=33\/x.op=34\/x.op=35):BlT l dep args loop (n+1) i [x::r] i1
 |cons {n i i1 i':Nat} {x:Nd} {r:List Nd} {K:List (List Nd)} (c:FQ 46 [cP] 1 (cW l i) (bV true) 1 (cW l i)) (c2:FQ 168 [cP,nI dep,nI args,bV loop] 1 (cW l i) (al (x::r)) 1 (cW l i1))
  (h1: ¬x.op=33) (h2: ¬x.op=34) (h3: ¬x.op=35) (t:BlT l dep args loop n i1 K i'):BlT l dep args loop (n+1) i ((x::r)::K) i'
theorem KP {l:List Int} {dep:Int} {args:Nat} {loop:Bool} {n i i':Nat} {K:List (List Nd)} (h:BlT l dep args loop n i K i'):K.length<=n:=by
 induction h with
 |nil i=>simp
 |stop _=>simp
 |last _ _ _=>simp
 |cons _ _ _ _ _ _ ih=>simp;omega
theorem MC (l:List Int) (hl:l.length<=20000000000000) (dep:Int) (args:Nat) (loop:Bool) (B:Nat) (hS:Gj l dep args loop B):∀ (n i:Nat),i<=l.length->∃ K i',BlT l dep args loop n i K i'/\i'<=l.length/\∀ r∈K,OKr B r
 |0,i,hi=>⟨[],i,.nil i,hi,λr hr=>by cases hr⟩
 |n+1,i,hi=>by
  obtain⟨b,hb,c⟩:=Kf l hl i hi
  cases b with
  |false=>exact⟨[],i,.stop c,hi,λr hr=>by cases hr⟩
  |true=>
   obtain⟨r,i1,o,hi1,c2⟩:=hS i hi;obtain⟨x,r,rfl⟩:=Z4j o.ne;by_cases ho:x.op=33\/x.op=34\/x.op=35
   ·exact⟨[x::r],i1,.last c c2 ho,hi1,λq hq=>by rw[Z0m.1 hq];exact o⟩
   ·obtain⟨K,i',h1,h2,h4⟩:=MC l hl dep args loop B hS n i1 hi1
    refine⟨(x::r)::K,i',.cons c c2 (λh=>ho (.inl h)) (λh=>ho (.inr (.inl h))) (λh=>ho (.inr (.inr h))) h1,h2,λq hq=>?_⟩
    rcases Z0h.1 hq with rfl|hq
    ·exact o
    ·exact h4 q hq
theorem oZ (l:List Int) (hl:l.length<=20000000000000) (dep:Int) (args:Nat) (loop:Bool) (B:Nat) (hB2:B<=100000000000) (hS:Gj l dep args loop B):BlockE l dep args loop (1+3*B):=by
 intro i hi;obtain⟨m,i2,hm2,hi2,c2⟩:=aJ l hl 4 ac ac i hi;obtain⟨K,i3,hB,hi3,hK⟩:=MC l hl dep args loop B hS m i2 hi2;have hKl:=KP hB;have hKB:K.length*B<=3*B:=Z1w B aa;obtain⟨r,o,dn⟩:=aO 4 K (B:=B) (1+3*B) hK aa aa aa;unfold dw at dn;refine⟨r,i3,o,hi3,?_⟩;have hsz:(Tryz.prog.types[32]).size=1:=aK;have hby:(Tryz.prog.types[32]).bytes=24:=aK;refine wW Tryz.func104 ?_
 repeat'(first|refine yA ?_|refine y2 ?_ ?_|refine aQ c2 ?_|exact y5|fail)
 refine gH 9 (.s (.row 1 2 0)) (VLe.s SLe.nilrow) rfl (Ex.upN (n':=3) aa ?_)
 refine cy (σ:=Nat×Nat×List (List Nd)) (λs=>[(9,.s (.row 1 2 s.2.2.length)),(10,nI s.1)]) (λs=>[(0,some {cells:=[kM l,.int .i64 (s.2.1:Int)],ty:=97}),(1,ow 1 s.2.2)])
  (λs=>∃ R,BlT l dep args loop s.1 s.2.1 R i3/\s.2.2++R=K/\s.2.2.length+s.1<=3) (λs=>s.1) (m,i2,[]) rfl (λ_=>rfl) ⟨K,hB,rfl,by simp;omega⟩ aP ⟨rfl,trivial⟩ ?_
 rintro⟨n,j,D⟩ ⟨R,hR,hD,hDn⟩;simp only at hR hD hDn |-
 cases hR with
 |nil=>
  rw[Z0u] at hD;subst hD
  cases D with
  |nil=>
   repeat'(first|refine yA ?_|refine y2 ?_ ?_|refine y4 λh=>?_|(refine wX ?_;refine sC dn rfl ⟨ah _,VLe.s SLe.row0,trivial⟩ rfl rfl rfl ?_)|exact y5|fail)
   all_goals exact bK
  |cons x D=>
   repeat'(first|refine yA ?_|refine y2 ?_ ?_|refine y4 λh=>?_|(refine wX ?_;refine gB nS [] (x::D) dn ?_)|exact y5|fail)
   all_goals exact bK
 |stop c=>
  rw[Z0u] at hD;subst hD
  cases D with
  |nil=>
   repeat'(first|refine yA ?_|refine y2 ?_ ?_|refine y4 λh=>?_|refine aQ c ?_|(refine wX ?_;refine sC dn rfl ⟨ah _,VLe.s SLe.row0,trivial⟩ rfl rfl rfl ?_)|exact y5|fail)
   all_goals exact bK
  |cons x D=>
   repeat'(first|refine yA ?_|refine y2 ?_ ?_|refine y4 λh=>?_|refine aQ c ?_|(refine wX ?_;refine gB nS [] (x::D) dn ?_)|exact y5|fail)
   all_goals exact bK
 | @last n _ j1 x0 r0 c cc2 ho=>
   subst hD;obtain⟨op0,n0,s0,k0⟩:=x0;simp only at ho
   rcases ho with rfl|rfl|rfl
   all_goals
    cases D with
    |nil=>
     simp only[Z04,Z0e] at hDn
     repeat'(first|refine y1 ?_|refine y2 ?_ ?_|(refine y4 λh=>?_;try(first|(first|exact absurd rfl (by assumption)|exact absurd (by assumption) ac|(exfalso;omega))|exact y6))|refine aQ c ?_|refine aQ cc2 ?_|(refine wX ?_;refine gB nS [] ([]++[⟨_,n0,s0,k0⟩::r0]) dn ?_)|exact Z1n (List.length r0)|refine gZ (i:=1) (g:=2) (m:=0) (w:=1) (cs:=[]) (foot:=[3]) (k:=1) (add:=[nS (⟨_,n0,s0,k0⟩::r0)]) rfl rfl aq rfl rfl rfl rfl rfl rfl rfl hsz ac rfl ⟨Z02 _,rfl⟩ ac aq rfl (by rw[hby];omega) aa rfl ?_|refine y3 ?_|exact y5|fail)
     all_goals exact bK
    |cons y D=>
     simp only[Z04,Z0e] at hDn
     repeat'(first|refine y1 ?_|refine y2 ?_ ?_|(refine y4 λh=>?_;try(first|(first|exact absurd rfl (by assumption)|exact absurd (by assumption) ac|(exfalso;omega))|exact y6))|refine aQ c ?_|refine aQ cc2 ?_|(refine wX ?_;refine gB nS [] ((y::D)++[⟨_,n0,s0,k0⟩::r0]) dn ?_)|exact Z1n (List.length r0)|refine gZ (i:=1) (g:=2) (m:=D.length+1) (w:=1) (cs:=(y::D).map λr=>nS r) (foot:=[3]) (k:=1) (add:=[nS (⟨_,n0,s0,k0⟩::r0)]) rfl rfl aq rfl rfl rfl rfl rfl rfl rfl hsz ac rfl ⟨Z02 _,rfl⟩ ac aq rfl (by rw[hby];omega) aa rfl ?_|refine y3 ?_|exact y5|fail)
     all_goals exact bK
 | @cons n _ j1 _ x0 r0 R' c cc2 h1 h2 h3 t=>
   repeat'(first|refine y1 ?_|refine y2 ?_ ?_|refine y4 λh=>?_|refine aQ c ?_|refine aQ cc2 ?_|exact Z1n (List.length r0)|refine gZ (i:=1) (g:=2) (m:=D.length) (w:=1) (cs:=D.map λr=>nS r) (foot:=[3]) (k:=1) (add:=[nS (x0::r0)]) rfl rfl aq rfl rfl rfl rfl rfl rfl rfl hsz ac rfl ⟨Z02 _,rfl⟩ ac aq rfl (by rw[hby];omega) aa rfl ?_|refine y3 ?_|exact y5|fail)
   refine fX (n,j1,D++[x0::r0]) ⟨R',t,by simpa using hD,by simp;omega⟩ (by first|(simp only;omega)|(simp only[Z04];omega)) [0,4,5] rfl ?_ ?_ ?_
   ·repeat'(first|exact ah _|exact dd _|exact Z0o|exact bB (congrArg nI (by push_cast;omega))|(refine bB (congrArg V.s (?_:S.row 4 5 _=S.row 4 5 _));simp;done)|refine⟨?_,?_⟩)
   ·refine⟨rfl,bh ?_ trivial⟩
    rw[Z0d];rfl
   ·exact (by unfold ow;generalize List.map _ _=cg;cases cg<;>rfl)
theorem sP (l:List Int) (hl:l.length<=20000000000000) (dep:Int) (h1: -1<=dep) (h2:dep<=3) (args:Nat) (ha:args<=100) (B:Nat) (hB1:3000<=B) (hB2:B<=10000000000) (hB:0<dep->∀ loop,BlockE l (dep-1) args loop B) (loop:Bool):
 Gj l dep args loop (12100+3*B):=by
 intro i hi
 have eE:∀ d:Int,-10<=d->d<=3->fL l d args 3000:=λd p q=>KC l hl args ha d p q
 obtain⟨k,i1,hk,hi1,c1⟩:=aJ l hl 14 ac ac i hi;by_cases hc:k=1/\0<dep
 ·obtain⟨rfl,hd⟩:=hc
  obtain⟨q,i2,hq,hi2,c2⟩:=aJ l hl 2 ac ac i1 hi1;obtain⟨r1,i3,o1,hi3,c3⟩:=eE 1 ac ac i2 hi2;obtain⟨r2,i4,o2,hi4,c4⟩:=hB hd loop i3 hi3;by_cases hq0:q=0
  ·subst hq0
   obtain⟨r,o,dn⟩:=aO 31 [r1,r2] (B:=B) (12100+3*B) (by simp[o1.le hB1,o2]) (by first|(simp;done)|(simp;omega)) aq (by first|(simp;done)|(simp;omega));unfold dw at dn;refine⟨r,i4,o,hi4,?_⟩;refine wW Tryz.func168 ?_
   repeat'(first|refine yA ?_|refine y2 ?_ ?_|refine y4 λh=>?_|refine aQ c1 ?_|refine aQ c2 ?_|refine aQ c3 ?_|refine aQ c4 ?_|refine wX (gB nS [] [r1,r2] dn ?_)|exact y5|fail)
   all_goals exact bK
  ·obtain⟨r3,i5,o3,hi5,c5⟩:=hB hd loop i4 hi4
   obtain⟨r,o,dn⟩:=aO 31 [r1,r2,r3] (B:=B) (12100+3*B) (by simp[o1.le hB1,o2,o3]) (by first|(simp;done)|(simp;omega)) aq (by first|(simp;done)|(simp;omega));unfold dw at dn;refine⟨r,i5,o,hi5,?_⟩;refine wW Tryz.func168 ?_
   repeat'(first|refine yA ?_|refine y2 ?_ ?_|refine y4 λh=>?_|refine aQ c1 ?_|refine aQ c2 ?_|refine aQ c3 ?_|refine aQ c4 ?_|refine aQ c5 ?_|refine wX (gB nS [] [r1,r2,r3] dn ?_)|exact y5|fail)
   all_goals exact bK
 by_cases hc:k=2/\0<dep
 ·obtain⟨rfl,hd⟩:=hc
  obtain⟨r1,i3,o1,hi3,c3⟩:=eE 1 ac ac i1 hi1;obtain⟨r2,i4,o2,hi4,c4⟩:=hB hd true i3 hi3;obtain⟨r,o,dn⟩:=aO 32 [r1,r2] (B:=B) (12100+3*B) (by simp[o1.le hB1,o2]) (by first|(simp;done)|(simp;omega)) aq (by first|(simp;done)|(simp;omega));unfold dw at dn;refine⟨r,i4,o,hi4,?_⟩;refine wW Tryz.func168 ?_
  repeat'(first|refine yA ?_|refine y2 ?_ ?_|refine y4 λh=>?_|refine aQ c1 ?_|refine aQ c3 ?_|refine aQ c4 ?_|refine wX (gB nS [] [r1,r2] dn ?_)|exact y5|fail)
  all_goals exact bK
 by_cases hc:k=3
 ·subst hc
  obtain⟨r1,i3,o1,hi3,c3⟩:=eE dep aa h2 i1 hi1;obtain⟨r,o,dn⟩:=aO 33 [r1] (B:=B) (12100+3*B) (by simp[o1.le hB1]) (by first|(simp;done)|(simp;omega)) aq (by first|(simp;done)|(simp;omega));unfold dw at dn;refine⟨r,i3,o,hi3,?_⟩;refine wW Tryz.func168 ?_
  repeat'(first|refine yA ?_|refine y2 ?_ ?_|refine y4 λh=>?_|refine aQ c1 ?_|refine aQ c3 ?_|refine wX (gB nS [] [r1] dn ?_)|exact y5|fail)
  all_goals exact bK
 by_cases hc:k=4/\loop=true
 ·obtain⟨rfl,rfl⟩:=hc
  obtain⟨r,o,dn⟩:=aO 34 [] (B:=0) 1 (λr hr=>by cases hr) aq aq aq;unfold dw at dn;refine⟨r,i1,o.le aa,hi1,?_⟩;refine wW Tryz.func168 ?_
  repeat'(first|refine yA ?_|refine y2 ?_ ?_|refine y4 λh=>?_|refine aQ c1 ?_|(refine wX ?_;refine sC dn rfl ⟨ah _,VLe.s SLe.nil,trivial⟩ rfl rfl rfl ?_)|exact y5|fail)
  all_goals exact bK
 by_cases hc:k=5/\loop=true
 ·obtain⟨rfl,rfl⟩:=hc
  obtain⟨r,o,dn⟩:=aO 35 [] (B:=0) 1 (λr hr=>by cases hr) aq aq aq;unfold dw at dn;refine⟨r,i1,o.le aa,hi1,?_⟩;refine wW Tryz.func168 ?_
  repeat'(first|refine yA ?_|refine y2 ?_ ?_|refine y4 λh=>?_|refine aQ c1 ?_|(refine wX ?_;refine sC dn rfl ⟨ah _,VLe.s SLe.nil,trivial⟩ rfl rfl rfl ?_)|exact y5|fail)
  all_goals exact bK
 by_cases hc:k=6
 ·subst hc
  obtain⟨r1,o1,d1⟩:=cC [77,84,88] ac;obtain⟨r,o,dn⟩:=aO 36 [r1] (B:=B) (12100+3*B) (by simp[o1.le (show 1<=B by omega)]) (by first|(simp;done)|(simp;omega)) aq (by first|(simp;done)|(simp;omega));unfold dw at dn;refine⟨r,i1,o,hi1,?_⟩;refine wW Tryz.func168 ?_
  repeat'(first|refine yA ?_|refine y2 ?_ ?_|refine y4 λh=>?_|refine aQ c1 ?_|refine an d1 ?_|refine wX (gB nS [] [r1] dn ?_)|exact y5|fail)
  all_goals exact bK
 by_cases hc:k=7
 ·subst hc
  obtain⟨q,i2,hq,hi2,c2⟩:=aJ l hl 2 ac ac i1 hi1;obtain⟨r1,o1,d1⟩:=cC [69,86,84] ac;obtain⟨r,o,dn⟩:=aO (37+(q:Int)) [r1] (B:=B) (12100+3*B) (by simp[o1.le (show 1<=B by omega)]) (by first|(simp;done)|(simp;omega)) aq (by first|(simp;done)|(simp;omega));unfold dw at dn;refine⟨r,i2,o,hi2,?_⟩;refine wW Tryz.func168 ?_
  repeat'(first|refine yA ?_|refine y2 ?_ ?_|refine y4 λh=>?_|refine aQ c1 ?_|refine aQ c2 ?_|refine an d1 ?_|refine wX (gB nS [] [r1] dn ?_)|exact y5|fail)
  all_goals exact bK
 by_cases hc:k=8
 ·subst hc
  obtain⟨q,i2,hq,hi2,c2⟩:=aJ l hl 4 ac ac i1 hi1;obtain⟨r1,o1,d1⟩:=eg q aa;obtain⟨r,o,dn⟩:=aO 39 [r1] (B:=B) (12100+3*B) (by simp[o1.le (show 1<=B by omega)]) (by first|(simp;done)|(simp;omega)) aq (by first|(simp;done)|(simp;omega));unfold dw at dn;refine⟨r,i2,o,hi2,?_⟩;refine wW Tryz.func168 ?_
  repeat'(first|refine yA ?_|refine y2 ?_ ?_|refine y4 λh=>?_|refine aQ c1 ?_|refine aQ c2 ?_|refine an d1 ?_|refine wX (gB nS [] [r1] dn ?_)|exact y5|fail)
  all_goals exact bK
 by_cases hc:k=9
 ·subst hc
  obtain⟨s,i2,hs,hi2,c2⟩:=mQ l hl i1 hi1;obtain⟨r1,o1,d1⟩:=cC s aa;obtain⟨r2,i3,o2,hi3,c3⟩:=eE 0 ac ac i2 hi2;obtain⟨r,o,dn⟩:=aO 40 [r1,r2] (B:=B) (12100+3*B) (by simp[o1.le (show 1<=B by omega),o2.le hB1]) (by first|(simp;done)|(simp;omega)) aq (by first|(simp;done)|(simp;omega));unfold dw at dn;refine⟨r,i3,o,hi3,?_⟩;refine wW Tryz.func168 ?_
  repeat'(first|refine yA ?_|refine y2 ?_ ?_|refine y4 λh=>?_|refine aQ c1 ?_|refine aQ c2 ?_|refine an d1 ?_|refine aQ c3 ?_|refine wX (gB nS [] [r1,r2] dn ?_)|exact y5|fail)
  all_goals exact bK
 by_cases hc:k=10
 ·subst hc
  obtain⟨r,i2,o,hi2,c2⟩:=FK l hl dep aa aa args 3000 ha ac ac (eE _ aa aa) i1 hi1;refine⟨r,i2,o.le aa,hi2,?_⟩;refine wW Tryz.func168 ?_
  repeat'(first|refine yA ?_|refine y2 ?_ ?_|refine y4 λh=>?_|refine aQ c1 ?_|refine aQ c2 ?_|exact y5|fail)
  all_goals exact bK
 by_cases hc:k=11
 ·subst hc
  obtain⟨r,i2,o,hi2,c2⟩:=C0 l hl dep aa aa args 3000 ha ac ac (eE _ aa aa) i1 hi1;refine⟨r,i2,o.le aa,hi2,?_⟩;refine wW Tryz.func168 ?_
  repeat'(first|refine yA ?_|refine y2 ?_ ?_|refine y4 λh=>?_|refine aQ c1 ?_|refine aQ c2 ?_|exact y5|fail)
  all_goals exact bK
 obtain⟨r1,i2,o1,hi2,c2⟩:=eE dep aa h2 i1 hi1;obtain⟨r2,i3,o2,hi3,c3⟩:=pw l hl dep aa aa args 3000 ha ac ac (λ_=>eE _ aa aa) i2 hi2;obtain⟨r,o,dn⟩:=aO 30 [r1,r2] (B:=6001) 12003 (by simp[o1.le (show 3000<=6001 by decide),o2.le (show 1+2*3000<=6001 by decide)]) aq aq aq;unfold dw at dn;refine⟨r,i3,o.le aa,hi3,?_⟩;by_cases k1:k=1
 ·subst k1
  have hd: ¬dep>0:=aa;refine wW Tryz.func168 ?_
  repeat'(first|refine yA ?_|refine y2 ?_ ?_|refine y4 λh=>?_|refine aQ c1 ?_|refine aQ c2 ?_|refine aQ c3 ?_|refine wX (gB nS [] [r1,r2] dn ?_)|exact y5|fail)
  all_goals exact bK
 by_cases k2:k=2
 ·subst k2
  have hd: ¬dep>0:=aa;refine wW Tryz.func168 ?_
  repeat'(first|refine yA ?_|refine y2 ?_ ?_|refine y4 λh=>?_|refine aQ c1 ?_|refine aQ c2 ?_|refine aQ c3 ?_|refine wX (gB nS [] [r1,r2] dn ?_)|exact y5|fail)
  all_goals exact bK
 by_cases k4:k=4
 ·subst k4
  have hl2:loop=false:=by cases loop<;>simp_all
  subst hl2;refine wW Tryz.func168 ?_
  repeat'(first|refine yA ?_|refine y2 ?_ ?_|refine y4 λh=>?_|refine aQ c1 ?_|refine aQ c2 ?_|refine aQ c3 ?_|refine wX (gB nS [] [r1,r2] dn ?_)|exact y5|fail)
  all_goals exact bK
 by_cases k5:k=5
 ·subst k5
  have hl2:loop=false:=by cases loop<;>simp_all
  subst hl2;refine wW Tryz.func168 ?_
  repeat'(first|refine yA ?_|refine y2 ?_ ?_|refine y4 λh=>?_|refine aQ c1 ?_|refine aQ c2 ?_|refine aQ c3 ?_|refine wX (gB nS [] [r1,r2] dn ?_)|exact y5|fail)
  all_goals exact bK
 refine wW Tryz.func168 ?_
 repeat'(first|refine yA ?_|refine y2 ?_ ?_|refine y4 λh=>?_|refine aQ c1 ?_|refine aQ c2 ?_|refine aQ c3 ?_|refine wX (gB nS [] [r1,r2] dn ?_)|exact y5|fail)
 all_goals exact bK
theorem BlockE.up {l:List Int} {dep:Int} {args:Nat} {loop:Bool} {B C:Nat} (hbc:B<=C) (h:BlockE l dep args loop B):BlockE l dep args loop C:=λi hi=>by
 obtain⟨r,i',o,h⟩:=h i hi;exact⟨r,i',o.le hbc,h⟩
theorem Ih (l:List Int) (hl:l.length<=20000000000000) (args:Nat) (ha:args<=100):∀ dep:Int,0<=dep->dep<=3->∀ loop,BlockE l dep args loop 50000000:=by
 have s0:∀ loop,BlockE l 0 args loop (1+3*(12100+3*3000)):=λloop=>oZ l hl 0 args loop _ ac (sP l hl 0 ac ac args ha 3000 ac ac (λh=>absurd h ac) loop)
 have s1:∀ loop,BlockE l 1 args loop (1+3*(12100+3*(1+3*(12100+3*3000)))):=λloop=>oZ l hl 1 args loop _ ac (sP l hl 1 ac ac args ha _ ac ac (λ_ loop=>s0 loop) loop)
 have s2:∀ loop,BlockE l 2 args loop (1+3*(12100+3*(1+3*(12100+3*(1+3*(12100+3*3000)))))):=λloop=>oZ l hl 2 args loop _ ac (sP l hl 2 ac ac args ha _ ac ac (λ_ loop=>s1 loop) loop)
 have s3:∀ loop,BlockE l 3 args loop (1+3*(12100+3*(1+3*(12100+3*(1+3*(12100+3*(1+3*(12100+3*3000)))))))):=λloop=>oZ l hl 3 args loop _ ac (sP l hl 3 ac ac args ha _ ac ac (λ_ loop=>s2 loop) loop)
 intro dep h1 h2 loop
 rcases (aa:dep=0\/dep=1\/dep=2\/dep=3) with rfl|rfl|rfl|rfl
 ·exact (s0 loop).up ac
 ·exact (s1 loop).up ac
 ·exact (s2 loop).up ac
 ·exact (s3 loop).up ac
theorem vS (l:List Int) (hl:l.length<=20000000000000) (s:By) (hs:s.length<=1000) (dep:Int) (h1:0<=dep) (h2:dep<=3) (i:Nat) (hi:i<=l.length):
 ∃ (r:List Nd) (i':Nat),OKr 300000000 r/\i'<=l.length/\FQ 59 [cP,sV s,nI dep] 1 (cW l i) (al r) 1 (cW l i'):=by
 obtain⟨k,i1,hk,hi1,c1⟩:=aJ l hl 3 ac ac i hi;obtain⟨m,i2,hm2,hi2,c2⟩:=aJ l hl 2 ac ac i1 hi1;obtain⟨q,i3,hq,hi3,c3⟩:=aJ l hl 3 ac ac i2 hi2;obtain⟨rb,i4,ob,hi4,c4⟩:=Ih l hl k aa dep h1 h2 false i3 hi3;obtain⟨r1,o1,d1⟩:=cC s hs;obtain⟨r2,o2,d2⟩:=eg k aa;obtain⟨r3,o3,d3⟩:=eg m aa;obtain⟨r4,o4,d4⟩:=eg q aa;obtain⟨r,o,dn⟩:=aO 14 [r1,r2,r3,r4,rb] (B:=50000000) 300000000 (by simp[o1.le,o2.le,o3.le,o4.le,ob]) aq aq aq;unfold dw at dn;refine⟨r,i4,o,hi4,?_⟩;refine wW Tryz.func59 ?_
 repeat'(first|refine yA ?_|refine y2 ?_ ?_|refine aQ c1 ?_|refine aQ c2 ?_|refine aQ c3 ?_|refine an d1 ?_|refine an d2 ?_|refine an d3 ?_|refine an d4 ?_|refine aQ c4 ?_|refine wX (gB nS [] [r1,r2,r3,r4,rb] dn ?_)|exact y5|fail)
 all_goals exact bK
abbrev qM (g:Nat) (D:List Nd):Option Bl:=fq 49 (g+1) 4 (D.flatMap ndC)
theorem kI (r:List Nd):(r.flatMap ndC).all bZ=true:=by
 induction r with
 |nil=>rfl
 |cons x r ih=>rw[Z0g,Z1g,ih];rfl
theorem kJ {r:List Nd} (h:r≠[]):r.flatMap ndC≠[]:=by
 cases r with
 |nil=>exact absurd rfl h
 |cons x r=>simp[ndC]
structure SyD (B:Nat) (D:List Nd):Prop where
 len:D.length<=B
 wf:∀ x∈D,x.str.length<=1000/\0<=x.int
 nm:∃ k,k<D.length/\(D.getD k dN).op=3
theorem SyD.app {B C:Nat} {D r:List Nd} (h:SyD B D) (o:OKr C r):SyD (B+C) (D++r):=by
 refine⟨by rw[Z03];exact Nat.add_le_add h.len o.len,λx hx=>?_,?_⟩
 ·rcases Z0w.1 hx with q|q
  ·exact h.wf x q
  ·exact o.wf x q
 ·obtain⟨k,h1,h2⟩:=h.nm
  refine⟨k,ae,?_⟩
  grind
theorem Hr {a:Nd} {j:Nat} {x:S} (h:(ndC a)[j]? =some x):bL x=true:=by
 rcases j with _|_|_|_|j
 ·cases h;rfl
 ·cases h;rfl
 ·cases h;rfl
 ·cases h;rfl
 ·simp[ndC] at h
theorem Dx (l:List Int) (hl:l.length<=20000000000000) (i:Nat) (hi:i<=l.length) (s:By) (hs:s.length<=1000):
 ∃ (yy0 yy1 yy2 yy3 yy4:Nd) (i':Nat),yy1.op=3/\OKr 5 [yy0,yy1,yy2,yy3,yy4]/\i'<=l.length/\FQ 60 [cP,sV s] 1 (cW l i) (al [yy0,yy1,yy2,yy3,yy4]) 1 (cW l i'):=by
 obtain⟨k,i1,hk,hi1,c1⟩:=aJ l hl 3 ac ac i hi;obtain⟨m,i2,hm2,hi2,c2⟩:=aJ l hl 4 ac ac i1 hi1;obtain⟨q,i3,hq,hi3,c3⟩:=aJ l hl 32 ac ac i2 hi2
 obtain⟨sp,hsp0,hsp⟩:∃ sp:Int,0<=sp/\sp=(if k=0 then 0 else if k=1 then 1 else 3):=⟨_,ae,rfl⟩
 have d1:=vQ s;have d2:=AB sp;have d3:=AB (8*m);have d4:=AB (16+q)
 have o:∀ x∈[tree 3 0 s [],tree 1 sp [] [],tree 1 (8*m) [] [],tree 1 (16+q) [] []],OKr 1 x:=by
  grind [OKr.leaf]
 have dn:=DT 15 _ o aq aq;have hO:=OKr.tree (op:=15) (n:=0) (s:=[]) (C:=5) o ac aq aq;refine⟨⟨15,0,[],4⟩,⟨3,0,s,0⟩,⟨1,sp,[],0⟩,⟨1,8*m,[],0⟩,⟨1,16+q,[],0⟩,i3,rfl,hO,hi3,?_⟩;change FC _ _ _ _ _ (al (tree 15 0 [] [tree 3 0 s [],tree 1 sp [] [],tree 1 (8*m) [] [],tree 1 (16+q) [] []])) _ _;clear hO o;generalize tree 15 0 [] [tree 3 0 s [],tree 1 sp [] [],tree 1 (8*m) [] [],tree 1 (16+q) [] []]=r at*;generalize tree 3 0 s []=r1 at*;generalize tree 1 sp [] []=r2 at*;generalize tree 1 (8*m) [] []=r3 at*;generalize tree 1 (16+q) [] []=r4 at*;unfold dw at dn
 rcases (aa:k=0\/k=1\/k=2) with rfl|rfl|rfl
 all_goals
  subst hsp;refine wW Tryz.func60 ?_
  repeat'(first|refine yA ?_|refine y2 ?_ ?_|refine aQ c1 ?_|refine aQ c2 ?_|refine aQ c3 ?_|refine an d1 ?_|refine an d2 ?_|refine an d3 ?_|refine an d4 ?_|(refine wX ?_;refine CD 25 (λk=>[nS ([r1,r2,r3,r4].getD k [])]) 1 dn rfl rfl rfl rfl (λ_ _=>rfl) (λk j x hk hx=>dj (K:=[r1,r2,r3,r4]) hk hx) rfl aP rfl rfl rfl ?_)|exact y5|fail)
  all_goals exact bK
theorem u9 (l:List Int) (hl:l.length<=20000000000000):∃ p,SyD 2000000000 p/\FQ 28 [.s (kM l)] 0 [] (al p) 0 []:=by
 have hnew:=L2 l;have hsz:(Tryz.prog.types[49]).size=4:=aK;have hby:(Tryz.prog.types[49]).bytes=40:=aK;obtain⟨yy0,yy1,yy2,yy3,yy4,i1,hy1,o1,hi1,c1⟩:=Dx l hl 0 (Z08 _) [82,49] ac
 obtain⟨w,hw,hwd⟩:∃ w:Nat,(w=0\/w=2)/\w=(if yy2.int=3 then 0 else 2):=⟨_,ae,rfl⟩
 obtain⟨r2,i2,o2,hi2,c2⟩:=wK l hl [[70,49],[70,50]] ac ac false w hw i1 hi1;obtain⟨r3,i3,o3,hi3,c3⟩:=wK l hl [[70,51]] ac ac true 2 (.inr rfl) i2 hi2;unfold bc at c2 c3;obtain⟨m4,i4,hm4,hi4,c4⟩:=aJ l hl 4 ac ac i3 hi3;obtain⟨a1,p1,d1⟩:=cC [77,84,88] ac;obtain⟨a2,p2,d2⟩:=eg m4 aa;obtain⟨r4,o4,n4⟩:=aO 20 [a1,a2] (B:=1) 3 ae aq aq aq;obtain⟨a3,p3,d3⟩:=cC [69,86,84] ac;obtain⟨r5,o5,n5⟩:=aO 21 [a3] (B:=1) 3 ae aq aq aq;obtain⟨a4,p4,d4⟩:=cC [65] ac;obtain⟨a5,i5,p5,hi5,c5⟩:=qu l hl 2 ac i4 hi4;obtain⟨r6,o6,n6⟩:=aO 13 [a4,a5] (B:=1000) 2001 (by grind [p4.le]) aq aq aq;obtain⟨a6,p6,d6⟩:=cC [66] ac;obtain⟨x7,i6,hx7,hi6,c6⟩:=lM l hl i5 hi5;obtain⟨a7,p7,d7⟩:=eg x7 hx7;obtain⟨r7,o7,n7⟩:=aO 13 [a6,a7] (B:=1) 3 ae aq aq aq;obtain⟨a8,p8,d8⟩:=cC [67] ac;obtain⟨a9,p9,d9⟩:=eg 3 ac;obtain⟨b1,q1,e1⟩:=eg 1 ac;obtain⟨b2,i7,q2,hi7,c7⟩:=qu l hl 1 ac i6 hi6;obtain⟨b3,q3,f3⟩:=aO 4 [b1,b2] (B:=1000) 2001 (by grind [q1.le,q2.le]) aq aq aq;obtain⟨b4,q4,f4⟩:=aO 51 [a9,b3] (B:=3000) 6001 (by grind [p9.le,q3.le]) aq aq aq;obtain⟨r8,o8,n8⟩:=aO 13 [a8,b4] (B:=7000) 14001 (by grind [p8.le,q4.le]) aq aq aq;obtain⟨m9,i8,hm9,hi8,c8⟩:=aJ l hl 16 ac ac i7 hi7;obtain⟨b5,q5,e5⟩:=cC [68,69,86,48] ac;obtain⟨b6,q6,e6⟩:=cC [95,83,84,65] ac;obtain⟨b7,q7,e7'⟩:=eg m9 aa;obtain⟨b8,q8,f8⟩:=aO 13 [b6,b7] (B:=1) 3 ae aq aq aq;obtain⟨b9,q9,f9⟩:=aO 4 [b8] (B:=3) 4 ae aq aq aq;obtain⟨r9,o9,n9⟩:=aO 11 [b5,b9] (B:=4) 9 (by simp[q5.le (show 1<=4 by decide),q9]) aq aq aq;obtain⟨r10,i9,o10,hi9,c9⟩:=vS l hl [77] ac 2 ac ac i8 hi8;obtain⟨r11,i10,o11,hi10,c10⟩:=vS l hl [78] ac 3 ac ac i9 hi9;unfold dw at n4 n5 n6 n7 n8 n9 f3 f4 f8 f9
 have h0:SyD 5 [yy0,yy1,yy2,yy3,yy4]:=⟨o1.len,o1.wf,1,aq,hy1⟩
 obtain⟨D1,hD1,h1⟩:∃ D,D=[yy0,yy1,yy2,yy3,yy4]++r2/\SyD 105 D:=⟨_,rfl,h0.app o2⟩
 have hl1:=h1.len
 obtain⟨D2,hD2,h2⟩:∃ D,D=D1++r3/\SyD 205 D:=⟨_,rfl,h1.app o3⟩
 have hl2:=h2.len
 obtain⟨D3,hD3,h3⟩:∃ D,D=D2++r4/\SyD 208 D:=⟨_,rfl,h2.app o4⟩
 have hl3:=h3.len
 obtain⟨D4,hD4,h4⟩:∃ D,D=D3++r5/\SyD 211 D:=⟨_,rfl,h3.app o5⟩
 have hl4:=h4.len
 obtain⟨D5,hD5,h5⟩:∃ D,D=D4++r6/\SyD 2212 D:=⟨_,rfl,h4.app o6⟩
 have hl5:=h5.len
 obtain⟨D6,hD6,h6⟩:∃ D,D=D5++r7/\SyD 2215 D:=⟨_,rfl,h5.app o7⟩
 have hl6:=h6.len
 obtain⟨D7,hD7,h7⟩:∃ D,D=D6++r8/\SyD 16216 D:=⟨_,rfl,h6.app o8⟩
 have hl7:=h7.len
 obtain⟨D8,hD8,h8⟩:∃ D,D=D7++r9/\SyD 16225 D:=⟨_,rfl,h7.app o9⟩
 have hl8:=h8.len
 obtain⟨D9,hD9,h9⟩:∃ D,D=D8++r10/\SyD 300016225 D:=⟨_,rfl,h8.app o10⟩
 have hl9:=h9.len
 obtain⟨D10,hD10,h10⟩:∃ D,D=D9++r11/\SyD 600016225 D:=⟨_,rfl,h9.app o11⟩
 have hl10:=h10.len;refine⟨D10,⟨aa,h10.wf,h10.nm⟩,?_⟩;clear h0 h1 h2 h3 h4 h5 h6 h7 h8 h9 h10 p1 p2 p3 p4 p5 p6 p7 p8 p9 q1 q2 q3 q4 q5 q6 q7 q8 q9 hi1 hi2 hi3 hi4 hi5 hi6 hi7 hi8 hi9 hi10 hy1;have le2:1<=r2.length:=Z1s.2 o2.ne;have g2:=o2.len;have ne2:=o2.ne;have le3:1<=r3.length:=Z1s.2 o3.ne;have g3:=o3.len;have ne3:=o3.ne;have le4:1<=r4.length:=Z1s.2 o4.ne;have g4:=o4.len;have ne4:=o4.ne;have le5:1<=r5.length:=Z1s.2 o5.ne;have g5:=o5.len;have ne5:=o5.ne;have le6:1<=r6.length:=Z1s.2 o6.ne;have g6:=o6.len;have ne6:=o6.ne;have le7:1<=r7.length:=Z1s.2 o7.ne;have g7:=o7.len;have ne7:=o7.ne;have le8:1<=r8.length:=Z1s.2 o8.ne;have g8:=o8.len;have ne8:=o8.ne;have le9:1<=r9.length:=Z1s.2 o9.ne;have g9:=o9.len;have ne9:=o9.ne;have le10:1<=r10.length:=Z1s.2 o10.ne;have g10:=o10.len;have ne10:=o10.ne;have le11:1<=r11.length:=Z1s.2 o11.ne;have g11:=o11.len;have ne11:=o11.ne;clear o1 o2 o3 o4 o5 o6 o7 o8 o9 o10 o11;refine wW Tryz.func28 ?_
 repeat'(first|refine gH 4 (.s (.row 1 2 0)) (VLe.s SLe.nilrow) rfl (Ex.upN (n':=3) ac ?_)|refine y1 ?_|refine y2 ?_ ?_|refine wX (bD [] hnew ?_)|refine aQ c1 ?_|refine y3 ?_|exact y5|fail)
 refine gZ (i:=1) (g:=2) (m:=0) (w:=4) (cs:=[]) (foot:=[]) (k:=5) (add:=[yy0,yy1,yy2,yy3,yy4].flatMap ndC) rfl rfl rfl rfl rfl rfl rfl rfl rfl rfl hsz ac rfl ?_ ac (by simp[ndC]) rfl ae aa rfl ?_
 ·trivial
 repeat'(first|refine my [0,3,4] 93 [(3,cP),(4,.s (.sla 1 2 5))] [(0,some {cells:=[kM l,.int .i64 (i1:Int)],ty:=97}),(1,qM 1 [yy0,yy1,yy2,yy3,yy4])] rfl rfl ⟨ah _,VLe.s (SLe.rowsla ac),trivial⟩ ⟨rfl,rfl,trivial⟩ rfl ?_|refine Ex.cutS 5 93 3 [(3,cP),(4,.s (.row 1 2 [yy0,yy1,yy2,yy3,yy4].length)),(5,nI w)] [(0,some {cells:=[kM l,.int .i64 (i1:Int)],ty:=97}),(1,qM 1 [yy0,yy1,yy2,yy3,yy4])] rfl (Hold.k ?_) (Hold.k ?_)|refine y1 ?_|refine y2 ?_ ?_|refine y3 ?_|exact y5|fail)
 ·refine⟨?_⟩
  by_cases hy:yy2.int=3
  ·rw[if_pos hy] at hwd
   subst hwd
   repeat'(first|refine y1 ?_|refine y2 ?_ ?_|refine y4 λh=>?_|refine gG [.val (.s (.int .u64 yy2.int))] rfl rfl ?_ rfl ?_|refine y3 ?_|exact y5|fail)
   all_goals refine fH [0,1,2] rfl rfl ⟨ah _,VLe.s (SLe.slarow ac),ah _,trivial⟩ ⟨rfl,rfl,trivial⟩ rfl
  ·rw[if_neg hy] at hwd
   subst hwd
   repeat'(first|refine y1 ?_|refine y2 ?_ ?_|refine y4 λh=>?_|refine gG [.val (.s (.int .u64 yy2.int))] rfl rfl ?_ rfl ?_|refine y3 ?_|exact y5|fail)
   all_goals refine fH [0,1,2] rfl rfl ⟨ah _,VLe.s (SLe.slarow ac),ah _,trivial⟩ ⟨rfl,rfl,trivial⟩ rfl
 refine⟨?_⟩
 obtain⟨D0,hD0⟩:∃ D,D=[yy0,yy1,yy2,yy3,yy4]:=⟨_,rfl⟩
 have hl0:D0.length<=5:=by rw[hD0];simp
 rw[<-hD0] at hD1 |-;clear hD0
 repeat'(first|refine y1 ?_|refine y2 ?_ ?_|(refine wX ?_;refine CallG.mz 1 S.str [] [[70,49],[70,50]] (λ_ _=>rfl) [0] c2 rfl rfl rfl rfl rfl rfl rfl rfl rfl aP pi rfl rfl rfl ?_)|refine y3 ?_|exact y5|fail)
 refine gZ (i:=1) (g:=2) (m:=D0.length) (w:=4) (cs:=D0.flatMap ndC) (foot:=[]) (k:=r2.length) (add:=cX (λk=>ndC (r2.getD k dN)) r2.length) rfl rfl (by rw[dE]) rfl rfl rfl rfl rfl rfl rfl hsz ac rfl ?_ le2 (by rw[aD];exact kJ ne2) (by rw[aD];exact kI _) ae aa rfl ?_
 ·trivial
 repeat'(first|refine my [0,4,5] 93 [(3,cP),(4,.s (.row 1 2 D1.length))] [(0,some {cells:=[kM l,.int .i64 (i2:Int)],ty:=97}),(1,qM 1 D1)] rfl rfl ?_ ?_ ?_ (Hold.k ?_)|refine y1 ?_|refine y2 ?_ ?_|refine y3 ?_|exact y5|fail)
 ·rw[hD1]
  repeat'(first|exact ah _|exact Z0o|(refine bB (congrArg V.s (?_:S.row 4 5 _=S.row 4 5 _));simp;done)|refine⟨?_,?_⟩)
 ·rw[hD1]
  refine⟨rfl,bh ?_ trivial⟩;rw[Z0r,<-aD r2];rfl
 ·unfold qM;generalize List.flatMap _ _=cg;cases cg<;>rfl
 refine⟨?_⟩
 repeat'(first|refine y1 ?_|refine y2 ?_ ?_|(refine wX ?_;refine CallG.mz 1 S.str [] [[70,51]] (λ_ _=>rfl) [0] c3 rfl rfl rfl rfl rfl rfl rfl rfl rfl aP pi rfl rfl rfl ?_)|refine y3 ?_|exact y5|fail)
 refine gZ (i:=1) (g:=2) (m:=D1.length) (w:=4) (cs:=D1.flatMap ndC) (foot:=[]) (k:=r3.length) (add:=cX (λk=>ndC (r3.getD k dN)) r3.length) rfl rfl (by rw[dE]) rfl rfl rfl rfl rfl rfl rfl hsz ac rfl ?_ le3 (by rw[aD];exact kJ ne3) (by rw[aD];exact kI _) ae aa rfl ?_
 ·trivial
 repeat'(first|refine my [0,4,5] 93 [(3,cP),(4,.s (.row 1 2 D2.length))] [(0,some {cells:=[kM l,.int .i64 (i3:Int)],ty:=97}),(1,qM 1 D2)] rfl rfl ?_ ?_ ?_ (Hold.k ?_)|refine y1 ?_|refine y2 ?_ ?_|refine y3 ?_|exact y5|fail)
 ·rw[hD2]
  repeat'(first|exact ah _|exact Z0o|(refine bB (congrArg V.s (?_:S.row 4 5 _=S.row 4 5 _));simp;done)|refine⟨?_,?_⟩)
 ·rw[hD2]
  refine⟨rfl,bh ?_ trivial⟩;rw[Z0r,<-aD r3];rfl
 ·unfold qM;generalize List.flatMap _ _=cg;cases cg<;>rfl
 refine⟨?_⟩
 repeat'(first|refine y1 ?_|refine y2 ?_ ?_|refine aQ c4 ?_|refine an d1 ?_|refine an d2 ?_|refine wX (gB nS [] [a1,a2] n4 ?_)|exact aU aa aa|refine y3 ?_|exact y5|fail)
 refine gZ (i:=1) (g:=2) (m:=D2.length) (w:=4) (cs:=D2.flatMap ndC) (foot:=[]) (k:=r4.length) (add:=cX (λk=>ndC (r4.getD k dN)) r4.length) rfl rfl (by rw[dE]) rfl rfl rfl rfl rfl rfl rfl hsz ac rfl ?_ le4 (by rw[aD];exact kJ ne4) (by rw[aD];exact kI _) ae aa rfl ?_
 ·trivial
 repeat'(first|refine my [0,4,5] 93 [(3,cP),(4,.s (.row 1 2 D3.length))] [(0,some {cells:=[kM l,.int .i64 (i4:Int)],ty:=97}),(1,qM 1 D3)] rfl rfl ?_ ?_ ?_ (Hold.k ?_)|refine y1 ?_|refine y2 ?_ ?_|refine y3 ?_|exact y5|fail)
 ·rw[hD3]
  repeat'(first|exact ah _|exact Z0o|(refine bB (congrArg V.s (?_:S.row 4 5 _=S.row 4 5 _));simp;done)|refine⟨?_,?_⟩)
 ·rw[hD3]
  refine⟨rfl,bh ?_ trivial⟩;rw[Z0r,<-aD r4];rfl
 ·unfold qM;generalize List.flatMap _ _=cg;cases cg<;>rfl
 refine⟨?_⟩
 repeat'(first|refine y1 ?_|refine y2 ?_ ?_|refine an d3 ?_|refine wX (gB nS [] [a3] n5 ?_)|refine y3 ?_|exact y5|fail)
 refine gZ (i:=1) (g:=2) (m:=D3.length) (w:=4) (cs:=D3.flatMap ndC) (foot:=[]) (k:=r5.length) (add:=cX (λk=>ndC (r5.getD k dN)) r5.length) rfl rfl (by rw[dE]) rfl rfl rfl rfl rfl rfl rfl hsz ac rfl ?_ le5 (by rw[aD];exact kJ ne5) (by rw[aD];exact kI _) ae aa rfl ?_
 ·trivial
 repeat'(first|refine my [0,4,5] 93 [(3,cP),(4,.s (.row 1 2 D4.length))] [(0,some {cells:=[kM l,.int .i64 (i4:Int)],ty:=97}),(1,qM 1 D4)] rfl rfl ?_ ?_ ?_ (Hold.k ?_)|refine y1 ?_|refine y2 ?_ ?_|refine y3 ?_|exact y5|fail)
 ·rw[hD4]
  repeat'(first|exact ah _|exact Z0o|(refine bB (congrArg V.s (?_:S.row 4 5 _=S.row 4 5 _));simp;done)|refine⟨?_,?_⟩)
 ·rw[hD4]
  refine⟨rfl,bh ?_ trivial⟩;rw[Z0r,<-aD r5];rfl
 ·unfold qM;generalize List.flatMap _ _=cg;cases cg<;>rfl
 refine⟨?_⟩
 repeat'(first|refine y1 ?_|refine y2 ?_ ?_|refine an d4 ?_|refine aQ c5 ?_|refine wX (gB nS [] [a4,a5] n6 ?_)|refine y3 ?_|exact y5|fail)
 refine gZ (i:=1) (g:=2) (m:=D4.length) (w:=4) (cs:=D4.flatMap ndC) (foot:=[]) (k:=r6.length) (add:=cX (λk=>ndC (r6.getD k dN)) r6.length) rfl rfl (by rw[dE]) rfl rfl rfl rfl rfl rfl rfl hsz ac rfl ?_ le6 (by rw[aD];exact kJ ne6) (by rw[aD];exact kI _) ae aa rfl ?_
 ·trivial
 repeat'(first|refine my [0,4,5] 93 [(3,cP),(4,.s (.row 1 2 D5.length))] [(0,some {cells:=[kM l,.int .i64 (i5:Int)],ty:=97}),(1,qM 1 D5)] rfl rfl ?_ ?_ ?_ (Hold.k ?_)|refine y1 ?_|refine y2 ?_ ?_|refine y3 ?_|exact y5|fail)
 ·rw[hD5]
  repeat'(first|exact ah _|exact Z0o|(refine bB (congrArg V.s (?_:S.row 4 5 _=S.row 4 5 _));simp;done)|refine⟨?_,?_⟩)
 ·rw[hD5]
  refine⟨rfl,bh ?_ trivial⟩;rw[Z0r,<-aD r6];rfl
 ·unfold qM;generalize List.flatMap _ _=cg;cases cg<;>rfl
 refine⟨?_⟩
 repeat'(first|refine y1 ?_|refine y2 ?_ ?_|refine an d6 ?_|refine aQ c6 ?_|refine an d7 ?_|refine wX (gB nS [] [a6,a7] n7 ?_)|refine y3 ?_|exact y5|fail)
 refine gZ (i:=1) (g:=2) (m:=D5.length) (w:=4) (cs:=D5.flatMap ndC) (foot:=[]) (k:=r7.length) (add:=cX (λk=>ndC (r7.getD k dN)) r7.length) rfl rfl (by rw[dE]) rfl rfl rfl rfl rfl rfl rfl hsz ac rfl ?_ le7 (by rw[aD];exact kJ ne7) (by rw[aD];exact kI _) ae aa rfl ?_
 ·trivial
 repeat'(first|refine my [0,4,5] 93 [(3,cP),(4,.s (.row 1 2 D6.length))] [(0,some {cells:=[kM l,.int .i64 (i6:Int)],ty:=97}),(1,qM 1 D6)] rfl rfl ?_ ?_ ?_ (Hold.k ?_)|refine y1 ?_|refine y2 ?_ ?_|refine y3 ?_|exact y5|fail)
 ·rw[hD6]
  repeat'(first|exact ah _|exact Z0o|(refine bB (congrArg V.s (?_:S.row 4 5 _=S.row 4 5 _));simp;done)|refine⟨?_,?_⟩)
 ·rw[hD6]
  refine⟨rfl,bh ?_ trivial⟩;rw[Z0r,<-aD r7];rfl
 ·unfold qM;generalize List.flatMap _ _=cg;cases cg<;>rfl
 refine⟨?_⟩
 repeat'(first|refine y1 ?_|refine y2 ?_ ?_|refine an d8 ?_|refine an d9 ?_|refine an e1 ?_|refine aQ c7 ?_|refine wX (gB nS [] [b1,b2] f3 ?_)|refine wX (gB nS [] [a9,b3] f4 ?_)|refine wX (gB nS [] [a8,b4] n8 ?_)|refine y3 ?_|exact y5|fail)
 refine gZ (i:=1) (g:=2) (m:=D6.length) (w:=4) (cs:=D6.flatMap ndC) (foot:=[]) (k:=r8.length) (add:=cX (λk=>ndC (r8.getD k dN)) r8.length) rfl rfl (by rw[dE]) rfl rfl rfl rfl rfl rfl rfl hsz ac rfl ?_ le8 (by rw[aD];exact kJ ne8) (by rw[aD];exact kI _) ae aa rfl ?_
 ·trivial
 repeat'(first|refine my [0,6,7] 93 [(3,cP),(4,.s (.row 1 2 D7.length))] [(0,some {cells:=[kM l,.int .i64 (i7:Int)],ty:=97}),(1,qM 1 D7)] rfl rfl ?_ ?_ ?_ (Hold.k ?_)|refine y1 ?_|refine y2 ?_ ?_|refine y3 ?_|exact y5|fail)
 ·rw[hD7]
  repeat'(first|exact ah _|exact Z0o|(refine bB (congrArg V.s (?_:S.row 6 7 _=S.row 6 7 _));simp;done)|refine⟨?_,?_⟩)
 ·rw[hD7]
  refine⟨rfl,bh ?_ trivial⟩;rw[Z0r,<-aD r8];rfl
 ·unfold qM;generalize List.flatMap _ _=cg;cases cg<;>rfl
 refine⟨?_⟩
 repeat'(first|refine y1 ?_|refine y2 ?_ ?_|refine aQ c8 ?_|refine an e5 ?_|refine an e6 ?_|refine an (e7') ?_|refine wX (gB nS [] [b6,b7] f8 ?_)|refine wX (gB nS [] [b8] f9 ?_)|refine wX (gB nS [] [b5,b9] n9 ?_)|exact aU aa aa|refine y3 ?_|exact y5|fail)
 refine gZ (i:=1) (g:=2) (m:=D7.length) (w:=4) (cs:=D7.flatMap ndC) (foot:=[]) (k:=r9.length) (add:=cX (λk=>ndC (r9.getD k dN)) r9.length) rfl rfl (by rw[dE]) rfl rfl rfl rfl rfl rfl rfl hsz ac rfl ?_ le9 (by rw[aD];exact kJ ne9) (by rw[aD];exact kI _) ae aa rfl ?_
 ·trivial
 repeat'(first|refine my [0,6,7] 93 [(3,cP),(4,.s (.row 1 2 D8.length))] [(0,some {cells:=[kM l,.int .i64 (i8:Int)],ty:=97}),(1,qM 1 D8)] rfl rfl ?_ ?_ ?_ (Hold.k ?_)|refine y1 ?_|refine y2 ?_ ?_|refine y3 ?_|exact y5|fail)
 ·rw[hD8]
  repeat'(first|exact ah _|exact Z0o|(refine bB (congrArg V.s (?_:S.row 6 7 _=S.row 6 7 _));simp;done)|refine⟨?_,?_⟩)
 ·rw[hD8]
  refine⟨rfl,bh ?_ trivial⟩;rw[Z0r,<-aD r9];rfl
 ·unfold qM;generalize List.flatMap _ _=cg;cases cg<;>rfl
 refine⟨?_⟩
 repeat'(first|refine y1 ?_|refine y2 ?_ ?_|refine aQ c9 ?_|refine y3 ?_|exact y5|fail)
 refine gZ (i:=1) (g:=2) (m:=D8.length) (w:=4) (cs:=D8.flatMap ndC) (foot:=[]) (k:=r10.length) (add:=cX (λk=>ndC (r10.getD k dN)) r10.length) rfl rfl (by rw[dE]) rfl rfl rfl rfl rfl rfl rfl hsz ac rfl ?_ le10 (by rw[aD];exact kJ ne10) (by rw[aD];exact kI _) ae aa rfl ?_
 ·trivial
 repeat'(first|refine my [0,3,4] 93 [(3,cP),(4,.s (.row 1 2 D9.length))] [(0,some {cells:=[kM l,.int .i64 (i9:Int)],ty:=97}),(1,qM 1 D9)] rfl rfl ?_ ?_ ?_ (Hold.k ?_)|refine y1 ?_|refine y2 ?_ ?_|refine y3 ?_|exact y5|fail)
 ·rw[hD9]
  repeat'(first|exact ah _|exact Z0o|(refine bB (congrArg V.s (?_:S.row 3 4 _=S.row 3 4 _));simp;done)|refine⟨?_,?_⟩)
 ·rw[hD9]
  refine⟨rfl,bh ?_ trivial⟩;rw[Z0r,<-aD r10];rfl
 ·unfold qM;generalize List.flatMap _ _=cg;cases cg<;>rfl
 refine⟨?_⟩
 repeat'(first|refine y1 ?_|refine y2 ?_ ?_|refine aQ c10 ?_|refine y3 ?_|exact y5|fail)
 refine gZ (i:=1) (g:=2) (m:=D9.length) (w:=4) (cs:=D9.flatMap ndC) (foot:=[]) (k:=r11.length) (add:=cX (λk=>ndC (r11.getD k dN)) r11.length) rfl rfl (by rw[dE]) rfl rfl rfl rfl rfl rfl rfl hsz ac rfl ?_ le11 (by rw[aD];exact kJ ne11) (by rw[aD];exact kI _) ae aa rfl ?_
 ·trivial
 repeat'(first|refine my [0,3,4] 93 [(3,cP),(4,.s (.row 1 2 D10.length))] [(0,some {cells:=[kM l,.int .i64 (i10:Int)],ty:=97}),(1,qM 1 D10)] rfl rfl ?_ ?_ ?_ (Hold.k ?_)|refine y1 ?_|refine y2 ?_ ?_|refine y3 ?_|exact y5|fail)
 ·rw[hD10]
  repeat'(first|exact ah _|exact Z0o|(refine bB (congrArg V.s (?_:S.row 3 4 _=S.row 3 4 _));simp;done)|refine⟨?_,?_⟩)
 ·rw[hD10]
  refine⟨rfl,bh ?_ trivial⟩;rw[Z0r,<-aD r11];rfl
 ·unfold qM;generalize List.flatMap _ _=cg;cases cg<;>rfl
 refine⟨?_⟩
 repeat'(first|refine y1 ?_|refine y2 ?_ ?_|refine Ex.fzR 2 ndC 4 dN D10 rfl rfl (λ_=>rfl) (λa j x h=>Hr h) ac rfl rfl ?_|refine dv (.inl rfl) rfl (ah _) rfl|refine y3 ?_|exact y5|fail)
section
variable {p:List Nd} {k:Nat}
theorem AA {z:Int} (hk:k<p.length):bW (p.flatMap ndC) (k*4+1) [.int .u64 z]=(p.set k {p.getD k dN with int:=z}).flatMap ndC:=ie (g:=ndC) (d:=dN) (λ_=>rfl) aq hk rfl
theorem GR {s:By} (hk:k<p.length):bW (p.flatMap ndC) (k*4+2) [.str s]=(p.set k {p.getD k dN with str:=s}).flatMap ndC:=ie (g:=ndC) (d:=dN) (λ_=>rfl) aq hk rfl
theorem sH (h:kO p) {y:Nd} (hy:kO [y]):kO (p.set k y):=λx hx=>by
 rcases Z33 hx with h'|rfl
 ·exact h x h'
 ·exact hy _ (Z0m.2 rfl)
theorem sI (h:li p) {y:Nd} (hy:0<=y.int):li (p.set k y):=λx hx=>by
 rcases Z33 hx with h'|rfl
 ·exact h x h'
 ·exact hy
theorem L8 (hk:k<p.length):eO false 1 {cells:=p.flatMap ndC,ty:=49,more:=true,sym:=true,flat:=true,gh:=some (1,4)} (k*4+0)=some (nI (p.getD k dN).op):=by
 show (match (p.flatMap ndC)[k*4+0]? with|some x=>some (V.s x)|none=>none)=_;rw[cq ndC 4 dN (λ_=>rfl) hk (show (ndC (p.getD k dN))[0]? =some (.int .i64 (p.getD k dN).op) from rfl)]
theorem Hs (z:Int) (n:Nat) (h:0<n):∃ j:Nat,j<n/\z%(n:Int)=j:=by
 have h0:=Z5s z (show (n:Int)≠0 by omega);have h1:=Int.emod_lt_of_pos z (show 0<(n:Int) by omega);obtain⟨j,hj⟩:=Z2a h0;exact⟨j,aa,hj⟩
theorem LE (z:Int):∃ s:By,s.length<=4/\FQ 37 [nI z] 0 [] (sV s) 0 []:=by
 have hm0:=Ar z 10 ac ac
 obtain⟨n,hn,he⟩:∃ n:Nat,n<10/\z%18446744073709551616%(10:Nat)=n:=⟨(z%18446744073709551616%(10:Nat)).toNat,aa,aa⟩
 rw[he] at hm0;clear he
 have key:∀ n:Nat,n<10->FQ 36 [nI z,nI (10:Nat)] 0 [] (nI n) 0 []->FQ 37 [nI z] 0 [] (sV (segsL.getD n [])) 0 []:=by
  intro n hn hm0
  rcases (aa:n=0\/n=1\/n=2\/n=3\/n=4\/n=5\/n=6\/n=7\/n=8\/n=9) with rfl|rfl|rfl|rfl|rfl|rfl|rfl|rfl|rfl|rfl
  all_goals
   refine wW Tryz.func37 ?_
   repeat'(first|refine y1 ?_|refine y2 ?_ ?_|refine an hm0 ?_|refine Fin.str (.inl rfl) rfl rfl|refine y3 ?_|exact y5|fail)
 refine⟨segsL.getD n [],?_,key n hn hm0⟩
 match n,hn with
 |0,_=>decide
 |1,_=>decide
 |2,_=>decide
 |3,_=>decide
 |4,_=>decide
 |5,_=>decide
 |6,_=>decide
 |7,_=>decide
 |8,_=>decide
 |9,_=>decide
end
