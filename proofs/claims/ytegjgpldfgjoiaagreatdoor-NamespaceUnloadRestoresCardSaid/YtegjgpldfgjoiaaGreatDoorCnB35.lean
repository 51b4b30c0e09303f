import Derived.Test.YtegjgpldfgjoiaaGreatDoorCnB34
import Derived.Test.YtegjgpldfgjoiaaGreatDoorCnB15
set_option linter.unusedSimpArgs false
set_option linter.unusedVariables false
namespace Go.Proofs.YtegjgpldfgjoiaaGreatDoor
open Go Ab
set_option maxRecDepth 100000
set_option maxHeartbeats 2000000
theorem ti (l:List Int) (hl:l.length<=20000000000000) (dep:Int) (h1:1<=dep) (h2:dep<=9) (args B:Nat) (ha:args<=100) (hB1:100<=B) (hB2:B<=30000)
 (hE:dP l (dep-1) args B) (hE2:0<dep-1->dP l (dep-1-1) args B):dP l dep args (2+3*B):=by
 intro i hi
 have hd0: ¬dep<=0:=by omega
 obtain⟨k,i1,hk,hi1,c1⟩:=am l hl 16 (by decide) (by decide) i hi;by_cases k1:k=1
 ·obtain⟨r,i2,o,hi2,c2⟩:=kX l hl 0 (by decide) (by decide) args 1 ha (by decide) (by decide) (fun h=>absurd h (by decide)) i1 hi1
  refine⟨r,i2,o.le (by omega),hi2,?_⟩;subst k1;refine FC.walk (by kernel_rfl) Tryz.func218 rfl rfl ?_
  repeat'(first|exact y0|refine y1 ?_|refine y2 ?_ ?_|(refine y8 ?_ ?_<;>intro h<;>try exact y6)|(refine wC ?_;first|refine wF 18 (cm c1 ?_)|refine wF 221 (cm c2 ?_))|exact ac (by omega) (by omega)|exact aa (by omega) (by omega)|refine y3 ?_|refine y7 ?_ ?_|refine y4 ?_|(refine y9 ?_ ?_<;>intro h)|exact y5|fail)
  all_goals first
   |exact⟨.inl rfl,_,[],VLe.refl _,EndOK.by rfl ⟨rfl,trivial⟩ rfl rfl rfl rfl⟩
   |omega
   |exact ac (by omega) (by omega)
   |exact aa (by omega) (by omega)
 by_cases k2:k=2
 ·obtain⟨r,i2,o,hi2,c2⟩:=jL l hl 1 (by decide) i1 hi1
  refine⟨r,i2,o.le (by omega),hi2,?_⟩;subst k2;refine FC.walk (by kernel_rfl) Tryz.func218 rfl rfl ?_
  repeat'(first|exact y0|refine y1 ?_|refine y2 ?_ ?_|(refine y8 ?_ ?_<;>intro h<;>try exact y6)|(refine wC ?_;first|refine wF 18 (cm c1 ?_)|refine wF 62 (cm c2 ?_))|exact ac (by omega) (by omega)|exact aa (by omega) (by omega)|refine y3 ?_|refine y7 ?_ ?_|refine y4 ?_|(refine y9 ?_ ?_<;>intro h)|exact y5|fail)
  all_goals first
   |exact⟨.inl rfl,_,[],VLe.refl _,EndOK.by rfl ⟨rfl,trivial⟩ rfl rfl rfl rfl⟩
   |omega
   |exact ac (by omega) (by omega)
   |exact aa (by omega) (by omega)
 by_cases k3:k=3
 ·obtain⟨m,i2,hm2,hi2,c2⟩:=am l hl 3 (by decide) (by decide) i1 hi1
  obtain⟨r,o,d⟩:=lG 6 m [] (by omega) (by simp);refine⟨r,i2,o.le (by omega),hi2,?_⟩;subst k3;refine FC.walk (by kernel_rfl) Tryz.func218 rfl rfl ?_
  repeat'(first|exact y0|refine y1 ?_|refine y2 ?_ ?_|(refine y8 ?_ ?_<;>intro h<;>try exact y6)|(refine wC ?_;first|refine wF 18 (cm c1 ?_)|refine wF 18 (cm c2 ?_)|(refine wF 103 ?_;refine CallG.we d rfl ⟨VLe.refl _,VLe.refl _,VLe.refl _,VLe.s SLe.nil,trivial⟩ rfl rfl rfl ?_))|exact ac (by omega) (by omega)|exact aa (by omega) (by omega)|refine y3 ?_|refine y7 ?_ ?_|refine y4 ?_|(refine y9 ?_ ?_<;>intro h)|exact y5|fail)
  all_goals first
   |exact⟨.inl rfl,_,[],VLe.refl _,EndOK.by rfl ⟨rfl,trivial⟩ rfl rfl rfl rfl⟩
   |omega
   |exact ac (by omega) (by omega)
   |exact aa (by omega) (by omega)
 by_cases k4:k=4
 ·obtain⟨s,i2,hs,hi2,c2⟩:=jw l hl i1 hi1
  obtain⟨r,o,d⟩:=aZ s (by omega);refine⟨r,i2,o.le (by omega),hi2,?_⟩;subst k4;refine FC.walk (by kernel_rfl) Tryz.func218 rfl rfl ?_
  repeat'(first|exact y0|refine y1 ?_|refine y2 ?_ ?_|(refine y8 ?_ ?_<;>intro h<;>try exact y6)|(refine wC ?_;first|refine wF 18 (cm c1 ?_)|refine wF 19 (cm c2 ?_)|refine wF 56 (pu d ?_))|exact ac (by omega) (by omega)|exact aa (by omega) (by omega)|refine y3 ?_|refine y7 ?_ ?_|refine y4 ?_|(refine y9 ?_ ?_<;>intro h)|exact y5|fail)
  all_goals first
   |exact⟨.inl rfl,_,[],VLe.refl _,EndOK.by rfl ⟨rfl,trivial⟩ rfl rfl rfl rfl⟩
   |omega
   |exact ac (by omega) (by omega)
   |exact aa (by omega) (by omega)
 by_cases k5_6_7:k=5\/k=6\/k=7
 ·obtain⟨m,i2,hm2,hi2,c2⟩:=am l hl 17 (by decide) (by decide) i1 hi1
  obtain⟨r1,i3,o1,hi3,c3⟩:=hE i2 hi2;obtain⟨r2,i4,o2,hi4,c4⟩:=hE i3 hi3;obtain⟨r,o,dn⟩:=au (60+(m:Int)) [r1,r2] (B:=B) (2+3*B) (by simp[o1,o2]) (by first|(simp;done)|(simp;omega)) (by simp) (by first|(simp;done)|(simp;omega));refine⟨r,i4,o,hi4,?_⟩
  rcases k5_6_7 with rfl|rfl|rfl
  all_goals
   refine FC.walk (by kernel_rfl) Tryz.func218 rfl rfl ?_
   repeat'(first|exact y0|refine y1 ?_|refine y2 ?_ ?_|(refine y8 ?_ ?_<;>intro h<;>try exact y6)|(refine wC ?_;first|refine wF 18 (cm c1 ?_)|refine wF 18 (cm c2 ?_)|refine wF 218 (cm c3 ?_)|refine wF 218 (cm c4 ?_)|(refine wF 55 ?_;refine CallG.pl nS [] [r1,r2] (fun _ _=>rfl) dn rfl rfl rfl rfl rfl (by first|rfl|simp) (by first|rfl|simp|(rw[List.map_append];rfl)) rfl ⟨VLe.refl _,VLe.refl _,trivial⟩ rfl rfl rfl ?_))|exact ac (by omega) (by omega)|exact aa (by omega) (by omega)|refine y3 ?_|refine y7 ?_ ?_|refine y4 ?_|(refine y9 ?_ ?_<;>intro h)|exact y5|fail)
   all_goals first
    |exact⟨.inl rfl,_,[],VLe.refl _,EndOK.by rfl ⟨rfl,trivial⟩ rfl rfl rfl rfl⟩
    |omega
    |exact ac (by omega) (by omega)
    |exact aa (by omega) (by omega)
 by_cases k8_9:k=8\/k=9
 ·obtain⟨m,i2,hm2,hi2,c2⟩:=am l hl 8 (by decide) (by decide) i1 hi1
  obtain⟨r1,i3,o1,hi3,c3⟩:=hE i2 hi2;obtain⟨r,o,dn⟩:=au (77+(m:Int)) [r1] (B:=B) (2+3*B) (by simp[o1]) (by first|(simp;done)|(simp;omega)) (by simp) (by first|(simp;done)|(simp;omega));refine⟨r,i3,o,hi3,?_⟩
  rcases k8_9 with rfl|rfl
  all_goals
   refine FC.walk (by kernel_rfl) Tryz.func218 rfl rfl ?_
   repeat'(first|exact y0|refine y1 ?_|refine y2 ?_ ?_|(refine y8 ?_ ?_<;>intro h<;>try exact y6)|(refine wC ?_;first|refine wF 18 (cm c1 ?_)|refine wF 18 (cm c2 ?_)|refine wF 218 (cm c3 ?_)|(refine wF 55 ?_;refine CallG.pl nS [] [r1] (fun _ _=>rfl) dn rfl rfl rfl rfl rfl (by first|rfl|simp) (by first|rfl|simp|(rw[List.map_append];rfl)) rfl ⟨VLe.refl _,VLe.refl _,trivial⟩ rfl rfl rfl ?_))|exact ac (by omega) (by omega)|exact aa (by omega) (by omega)|refine y3 ?_|refine y7 ?_ ?_|refine y4 ?_|(refine y9 ?_ ?_<;>intro h)|exact y5|fail)
   all_goals first
    |exact⟨.inl rfl,_,[],VLe.refl _,EndOK.by rfl ⟨rfl,trivial⟩ rfl rfl rfl rfl⟩
    |omega
    |exact ac (by omega) (by omega)
    |exact aa (by omega) (by omega)
 by_cases k10:k=10
 ·obtain⟨r1,i2,o1,hi2,c2⟩:=kX l hl (dep-1) (by omega) (by omega) args B ha (by omega) (by omega) hE2 i1 hi1
  obtain⟨r,o,dn⟩:=au 85 [r1] (B:=1+2*B) (2+3*B) (by simp[o1]) (by first|(simp;done)|(simp;omega)) (by simp) (by first|(simp;done)|(simp;omega));refine⟨r,i2,o,hi2,?_⟩;subst k10;refine FC.walk (by kernel_rfl) Tryz.func218 rfl rfl ?_
  repeat'(first|exact y0|refine y1 ?_|refine y2 ?_ ?_|(refine y8 ?_ ?_<;>intro h<;>try exact y6)|(refine wC ?_;first|refine wF 18 (cm c1 ?_)|refine wF 221 (cm c2 ?_)|(refine wF 55 ?_;refine CallG.pl nS [] [r1] (fun _ _=>rfl) dn rfl rfl rfl rfl rfl (by first|rfl|simp) (by first|rfl|simp|(rw[List.map_append];rfl)) rfl ⟨VLe.refl _,VLe.refl _,trivial⟩ rfl rfl rfl ?_))|exact ac (by omega) (by omega)|exact aa (by omega) (by omega)|refine y3 ?_|refine y7 ?_ ?_|refine y4 ?_|(refine y9 ?_ ?_<;>intro h)|exact y5|fail)
  all_goals first
   |exact⟨.inl rfl,_,[],VLe.refl _,EndOK.by rfl ⟨rfl,trivial⟩ rfl rfl rfl rfl⟩
   |omega
   |exact ac (by omega) (by omega)
   |exact aa (by omega) (by omega)
 by_cases k11:k=11
 ·obtain⟨r1,i2,o1,hi2,c2⟩:=kX l hl (dep-1) (by omega) (by omega) args B ha (by omega) (by omega) hE2 i1 hi1
  obtain⟨r,o,dn⟩:=au 87 [r1] (B:=1+2*B) (2+3*B) (by simp[o1]) (by first|(simp;done)|(simp;omega)) (by simp) (by first|(simp;done)|(simp;omega));refine⟨r,i2,o,hi2,?_⟩;subst k11;refine FC.walk (by kernel_rfl) Tryz.func218 rfl rfl ?_
  repeat'(first|exact y0|refine y1 ?_|refine y2 ?_ ?_|(refine y8 ?_ ?_<;>intro h<;>try exact y6)|(refine wC ?_;first|refine wF 18 (cm c1 ?_)|refine wF 221 (cm c2 ?_)|(refine wF 55 ?_;refine CallG.pl nS [] [r1] (fun _ _=>rfl) dn rfl rfl rfl rfl rfl (by first|rfl|simp) (by first|rfl|simp|(rw[List.map_append];rfl)) rfl ⟨VLe.refl _,VLe.refl _,trivial⟩ rfl rfl rfl ?_))|exact ac (by omega) (by omega)|exact aa (by omega) (by omega)|refine y3 ?_|refine y7 ?_ ?_|refine y4 ?_|(refine y9 ?_ ?_<;>intro h)|exact y5|fail)
  all_goals first
   |exact⟨.inl rfl,_,[],VLe.refl _,EndOK.by rfl ⟨rfl,trivial⟩ rfl rfl rfl rfl⟩
   |omega
   |exact ac (by omega) (by omega)
   |exact aa (by omega) (by omega)
 by_cases k12:k=12
 ·obtain⟨s,i2,hs,hi2,c2⟩:=jw l hl i1 hi1
  obtain⟨r1,o1,d⟩:=aZ s (by omega);obtain⟨r,o,dn⟩:=au 86 [r1] (B:=1) 2 (by simp[o1]) (by simp) (by simp) (by simp);refine⟨r,i2,o.le (by omega),hi2,?_⟩;subst k12;refine FC.walk (by kernel_rfl) Tryz.func218 rfl rfl ?_
  repeat'(first|exact y0|refine y1 ?_|refine y2 ?_ ?_|(refine y8 ?_ ?_<;>intro h<;>try exact y6)|(refine wC ?_;first|refine wF 18 (cm c1 ?_)|refine wF 19 (cm c2 ?_)|refine wF 56 (pu d ?_)|(refine wF 55 ?_;refine CallG.pl nS [] [r1] (fun _ _=>rfl) dn rfl rfl rfl rfl rfl (by first|rfl|simp) (by first|rfl|simp|(rw[List.map_append];rfl)) rfl ⟨VLe.refl _,VLe.refl _,trivial⟩ rfl rfl rfl ?_))|exact ac (by omega) (by omega)|exact aa (by omega) (by omega)|refine y3 ?_|refine y7 ?_ ?_|refine y4 ?_|(refine y9 ?_ ?_<;>intro h)|exact y5|fail)
  all_goals first
   |exact⟨.inl rfl,_,[],VLe.refl _,EndOK.by rfl ⟨rfl,trivial⟩ rfl rfl rfl rfl⟩
   |omega
   |exact ac (by omega) (by omega)
   |exact aa (by omega) (by omega)
 by_cases k13:k=13
 ·obtain⟨r1,i2,o1,hi2,c2⟩:=hE i1 hi1
  obtain⟨r2,i3,o2,hi3,c3⟩:=hE i2 hi2;obtain⟨r3,i4,o3,hi4,c4⟩:=hE i3 hi3;obtain⟨r,o,dn⟩:=au 88 [r1,r2,r3] (B:=B) (2+3*B) (by simp[o1,o2,o3]) (by first|(simp;done)|(simp;omega)) (by simp) (by first|(simp;done)|(simp;omega));refine⟨r,i4,o,hi4,?_⟩;subst k13;refine FC.walk (by kernel_rfl) Tryz.func218 rfl rfl ?_
  repeat'(first|exact y0|refine y1 ?_|refine y2 ?_ ?_|(refine y8 ?_ ?_<;>intro h<;>try exact y6)|(refine wC ?_;first|refine wF 18 (cm c1 ?_)|refine wF 218 (cm c2 ?_)|refine wF 218 (cm c3 ?_)|refine wF 218 (cm c4 ?_)|(refine wF 55 ?_;refine CallG.pl nS [] [r1,r2,r3] (fun _ _=>rfl) dn rfl rfl rfl rfl rfl (by first|rfl|simp) (by first|rfl|simp|(rw[List.map_append];rfl)) rfl ⟨VLe.refl _,VLe.refl _,trivial⟩ rfl rfl rfl ?_))|exact ac (by omega) (by omega)|exact aa (by omega) (by omega)|refine y3 ?_|refine y7 ?_ ?_|refine y4 ?_|(refine y9 ?_ ?_<;>intro h)|exact y5|fail)
  all_goals first
   |exact⟨.inl rfl,_,[],VLe.refl _,EndOK.by rfl ⟨rfl,trivial⟩ rfl rfl rfl rfl⟩
   |omega
   |exact ac (by omega) (by omega)
   |exact aa (by omega) (by omega)
 by_cases k14:k=14
 ·obtain⟨r,i2,o,hi2,c2⟩:=Be l hl dep (by omega) (by omega) args B ha (by omega) (by omega) hE i1 hi1
  refine⟨r,i2,o.le (by omega),hi2,?_⟩;subst k14;refine FC.walk (by kernel_rfl) Tryz.func218 rfl rfl ?_
  repeat'(first|exact y0|refine y1 ?_|refine y2 ?_ ?_|(refine y8 ?_ ?_<;>intro h<;>try exact y6)|(refine wC ?_;first|refine wF 18 (cm c1 ?_)|refine wF 219 (cm c2 ?_))|exact ac (by omega) (by omega)|exact aa (by omega) (by omega)|refine y3 ?_|refine y7 ?_ ?_|refine y4 ?_|(refine y9 ?_ ?_<;>intro h)|exact y5|fail)
  all_goals first
   |exact⟨.inl rfl,_,[],VLe.refl _,EndOK.by rfl ⟨rfl,trivial⟩ rfl rfl rfl rfl⟩
   |omega
   |exact ac (by omega) (by omega)
   |exact aa (by omega) (by omega)
 by_cases k15:k=15
 ·obtain⟨r,i2,o,hi2,c2⟩:=xL l hl dep (by omega) (by omega) args B ha (by omega) (by omega) hE i1 hi1
  refine⟨r,i2,o.le (by omega),hi2,?_⟩;subst k15;refine FC.walk (by kernel_rfl) Tryz.func218 rfl rfl ?_
  repeat'(first|exact y0|refine y1 ?_|refine y2 ?_ ?_|(refine y8 ?_ ?_<;>intro h<;>try exact y6)|(refine wC ?_;first|refine wF 18 (cm c1 ?_)|refine wF 220 (cm c2 ?_))|exact ac (by omega) (by omega)|exact aa (by omega) (by omega)|refine y3 ?_|refine y7 ?_ ?_|refine y4 ?_|(refine y9 ?_ ?_<;>intro h)|exact y5|fail)
  all_goals first
   |exact⟨.inl rfl,_,[],VLe.refl _,EndOK.by rfl ⟨rfl,trivial⟩ rfl rfl rfl rfl⟩
   |omega
   |exact ac (by omega) (by omega)
   |exact aa (by omega) (by omega)
 by_cases k0:k=0
 ·obtain⟨x,i2,hx,hi2,c2⟩:=iL l hl i1 hi1
  obtain⟨r,o,d⟩:=bF x hx;refine⟨r,i2,o.le (by omega),hi2,?_⟩;subst k0;refine FC.walk (by kernel_rfl) Tryz.func218 rfl rfl ?_
  repeat'(first|exact y0|refine y1 ?_|refine y2 ?_ ?_|(refine y8 ?_ ?_<;>intro h<;>try exact y6)|(refine wC ?_;first|refine wF 18 (cm c1 ?_)|refine wF 73 (cm c2 ?_)|refine wF 58 (pu d ?_))|exact ac (by omega) (by omega)|exact aa (by omega) (by omega)|refine y3 ?_|refine y7 ?_ ?_|refine y4 ?_|(refine y9 ?_ ?_<;>intro h)|exact y5|fail)
  all_goals first
   |exact⟨.inl rfl,_,[],VLe.refl _,EndOK.by rfl ⟨rfl,trivial⟩ rfl rfl rfl rfl⟩
   |omega
   |exact ac (by omega) (by omega)
   |exact aa (by omega) (by omega)
 omega
theorem FF (l:List Int) (hl:l.length<=20000000000000) (args:Nat) (ha:args<=100):∀ dep:Int,-10<=dep->dep<=3->dP l dep args 3000:=by
 have up:∀ {B C:Nat} {dep:Int},B<=C->dP l dep args B->dP l dep args C:=fun hbc h i hi=>by
  obtain⟨r,i',o,h⟩:=h i hi;exact⟨r,i',o.le hbc,h⟩
 have e0:∀ dep:Int,-10<=dep->dep<=0->dP l dep args 100:=fun dep h1 h2=>FG l hl dep h1 h2 args ha
 have e1:dP l 1 args 302:=ti l hl 1 (by decide) (by decide) args 100 ha (by decide) (by decide) (e0 _ (by decide) (by decide)) (fun h=>absurd h (by decide));have e2:dP l 2 args 908:=ti l hl 2 (by decide) (by decide) args 302 ha (by decide) (by decide) e1 (fun _=>up (by decide) (e0 _ (by decide) (by decide)));have e3:dP l 3 args 2726:=ti l hl 3 (by decide) (by decide) args 908 ha (by decide) (by decide) e2 (fun _=>up (by decide) e1);intro dep h1 h2;by_cases h:dep<=0
 ·exact up (by decide) (e0 dep h1 h)
 ·rcases (by omega:dep=1\/dep=2\/dep=3) with rfl|rfl|rfl
  ·exact up (by decide) e1
  ·exact up (by decide) e2
  ·exact up (by decide) e3
set_option maxRecDepth 100000
set_option maxHeartbeats 4000000
inductive FiT (l:List Int):List By->Nat->List (List Nd)->Nat->Prop
 |nil (i:Nat):FiT l [] i [] i
 |skip {s:By} {ns:List By} {i i1 i2 i3 i' m q:Nat} {r1 r2 r3 r4 r5:List Nd} {K:List (List Nd)} (hq:q<20) (hm:m<12) (c:FC Tryz.prog 18 [cP,nI (3:Nat)] 1 (chL l i) (nI (2:Nat)) 1 (chL l i1)) (c2:FC Tryz.prog 18 [cP,nI (12:Nat)] 1 (chL l i1) (nI m) 1 (chL l i2))
  (d1:FC Tryz.prog 58 [.s (.int .u64 m)] 0 [] (ae r1) 0 []) (d2:FC Tryz.prog 55 [nI 19,.s (bg [r1])] 0 [] (ae r2) 0 []) (d3:FC Tryz.prog 56 [sV s] 0 [] (ae r3) 0 []) (c3:FC Tryz.prog 18 [cP,nI (20:Nat)] 1 (chL l i2) (nI q) 1 (chL l i3))
  (d4:FC Tryz.prog 58 [.s (.int .u64 (1+(q:Int)))] 0 [] (ae r4) 0 []) (d5:FC Tryz.prog 55 [nI 18,.s (bg [r3,r4])] 0 [] (ae r5) 0 []) (t:FiT l ns i3 K i'):FiT l (s::ns) i (r2::r5::K) i'
 |unit {s:By} {ns:List By} {i i2 i3 i' k q:Nat} {r3 r4 r5:List Nd} {K:List (List Nd)} (hq:q<20) (hk: ¬(k:Int)=2) (c:FC Tryz.prog 18 [cP,nI (3:Nat)] 1 (chL l i) (nI k) 1 (chL l i2)) (d3:FC Tryz.prog 56 [sV s] 0 [] (ae r3) 0 []) (c3:FC Tryz.prog 18 [cP,nI (20:Nat)] 1 (chL l i2) (nI q) 1 (chL l i3))
  (d4:FC Tryz.prog 58 [.s (.int .u64 (1+(q:Int)))] 0 [] (ae r4) 0 []) (d5:FC Tryz.prog 55 [nI 18,.s (bg [r3,r4])] 0 [] (ae r5) 0 []) (t:FiT l ns i3 K i'):FiT l (s::ns) i (r5::K) i'
theorem FE {l:List Int} {ns:List By} {i i':Nat} {K:List (List Nd)} (h:FiT l ns i K i'):K.length<=2*ns.length:=by
 induction h with
 |nil i=>simp
 |skip _ _ _ _ _ _ _ _ _ _ _ ih=>simp;omega
 |unit _ _ _ _ _ _ _ _ ih=>simp;omega
theorem FD (l:List Int) (hl:l.length<=20000000000000):∀ (ns:List By) (i:Nat),i<=l.length->(∀ s∈ns,s.length<=1000)->∃ K i',FiT l ns i K i'/\i'<=l.length/\∀ r∈K,OKr 3 r
 |[],i,hi,_=>⟨[],i,.nil i,hi,fun r hr=>by cases hr⟩
 |s::ns,i,hi,hs=>by
  obtain⟨k,i1,hk,hi1,c⟩:=am l hl 3 (by decide) (by decide) i hi;obtain⟨r3,o3,d3⟩:=aZ s (hs s (List.mem_cons_self ..));by_cases h2:k=2
  ·subst h2
   obtain⟨m,i2,hm,hi2,c2⟩:=am l hl 12 (by decide) (by decide) i1 hi1;obtain⟨r1,o1,d1⟩:=bF m (by omega);obtain⟨r2,o2,d2⟩:=au 19 [r1] (B:=1) 3 (by simp[o1]) (by simp) (by simp) (by simp);obtain⟨q,i3,hq,hi3,c3⟩:=am l hl 20 (by decide) (by decide) i2 hi2;obtain⟨r4,o4,d4⟩:=bF (1+(q:Int)) (by omega);obtain⟨r5,o5,d5⟩:=au 18 [r3,r4] (B:=1) 3 (by simp[o3,o4]) (by simp) (by simp) (by simp)
   obtain⟨K,i',h1,h2,h4⟩:=FD l hl ns i3 hi3 fun x hx=>hs x (List.mem_cons_of_mem _ hx)
   refine⟨r2::r5::K,i',.skip hq hm c c2 d1 d2 d3 c3 d4 d5 h1,h2,fun x hx=>?_⟩
   rcases List.mem_cons.1 hx with rfl|hx
   ·exact o2
   ·rcases List.mem_cons.1 hx with rfl|hx
    ·exact o5
    ·exact h4 x hx
  ·obtain⟨q,i3,hq,hi3,c3⟩:=am l hl 20 (by decide) (by decide) i1 hi1
   obtain⟨r4,o4,d4⟩:=bF (1+(q:Int)) (by omega);obtain⟨r5,o5,d5⟩:=au 18 [r3,r4] (B:=1) 3 (by simp[o3,o4]) (by simp) (by simp) (by simp)
   obtain⟨K,i',h1,h2,h4⟩:=FD l hl ns i3 hi3 fun x hx=>hs x (List.mem_cons_of_mem _ hx)
   refine⟨r5::K,i',.unit hq (by omega) c d3 c3 d4 d5 h1,h2,fun x hx=>?_⟩
   rcases List.mem_cons.1 hx with rfl|hx
   ·exact o5
   ·exact h4 x hx
theorem iY (l:List Int) (hl:l.length<=20000000000000) (names:List By) (hn:names.length<=2) (hs:∀ s∈names,s.length<=1000) (idx:Bool) (wide:Nat) (hw:wide=0\/wide=2) (i:Nat) (hi:i<=l.length):
 ∃ (r:List Nd) (i':Nat),OKr 100 r/\i'<=l.length/\FC Tryz.prog 61 [cP,.s (aJ names),bV idx,nI wide] 1 (chL l i) (ae r) 1 (chL l i'):=by
 obtain⟨K,i1,hB,hi1,hK⟩:=FD l hl names i hi hs;have hKl:=FE hB;obtain⟨k,i2,hk,hi2,c2⟩:=am l hl (wide+1) (by omega) (by omega) i1 hi1;obtain⟨m,i3,hm3,hi3,c3⟩:=am l hl 3 (by decide) (by decide) i2 hi2
 obtain⟨wd,hwd0,hwd⟩:∃ w:Int,0<=w/\w=(if k=0 then 1 else if k=1 then 2 else 4):=⟨_,by split<;>(try split)<;>decide,rfl⟩
 obtain⟨r1,o1,d1⟩:=bF wd hwd0;obtain⟨r2,o2,d2⟩:=bF m (by omega);obtain⟨rb,ob,db⟩:=au 4 K (B:=3) 13 hK (by omega) (by omega) (by omega);obtain⟨f1,p1,e1⟩:=aZ [70,49] (by decide);obtain⟨f2,p2,e2⟩:=aZ [70,50] (by decide);obtain⟨g1,q1,e3⟩:=aZ [82,49] (by decide);obtain⟨ra,oa,da⟩:=au 17 [f1,f2,r1,r2,rb] (B:=13) 100 (by simp[p1.le,p2.le,o1.le,o2.le,ob]) (by simp) (by simp) (by simp);obtain⟨rc,oc,dc⟩:=au 16 [g1,r1,r2,rb] (B:=13) 100 (by simp[q1.le,o1.le,o2.le,ob]) (by simp) (by simp) (by simp);unfold bg at da dc db;refine⟨if idx then ra else rc,i3,by cases idx<;>assumption,hi3,?_⟩;unfold aJ
 have hsz:(Tryz.prog.types[32]).size=1:=by kernel_rfl
 have hby:(Tryz.prog.types[32]).bytes=24:=by kernel_rfl
 refine FC.walk (by kernel_rfl) Tryz.func61 rfl rfl ?_
 repeat'(first|exact y0|refine y1 ?_|refine y2 ?_ ?_|(refine y8 ?_ ?_<;>intro h<;>try exact y6)|refine y3 ?_|refine y7 ?_ ?_|refine y4 ?_|(refine y9 ?_ ?_<;>intro h)|exact y5|fail)
 refine Ex.set 9 (.s (.row 1 2 0)) (VLe.s SLe.nilrow) rfl (Ex.upN (n':=3) (by omega) ?_)
 refine Ex.inv (σ:=List By×Nat×Nat×List (List Nd)) (fun s=>[(9,.s (.row 1 2 s.2.2.2.length)),(10,nI s.2.1)]) (fun s=>[(0,some {cells:=[chF l,.int .i64 (s.2.2.1:Int)],ty:=97}),(1,iO 1 s.2.2.2)])
  (fun s=>names.drop s.2.1=s.1/\s.2.1<=names.length/\∃ R,FiT l s.1 s.2.2.1 R i1/\s.2.2.2++R=K) (fun s=>s.1.length) (names,0,i,[]) rfl (fun _=>rfl) ⟨rfl,Nat.zero_le _,K,hB,rfl⟩ ⟨VLe.refl _,VLe.refl _,trivial⟩ ⟨rfl,trivial⟩ ?_
 rintro⟨rem,j,ci,D⟩ ⟨hj,hjl,R,hR,hD⟩;simp only at hj hjl hR hD |-
 have hDK:D.length+R.length<=4:=by rw[<-List.length_append,hD];omega
 cases hR with
 |nil=>
  have hj2: ¬j<names.length:=fun h=>by rw[List.drop_eq_getElem_cons h] at hj;cases hj
  rw[List.append_nil] at hD;subst hD
  rcases hw with rfl|rfl
  ·obtain rfl:k=0:=by omega
   subst hwd;cases idx
   all_goals
    cases D with
    |nil=>
     repeat'(first|exact y0|refine y1 ?_|refine y2 ?_ ?_|(refine y8 ?_ ?_<;>intro h<;>try exact y6)|(refine wC ?_;first|refine wF 18 (cm c2 ?_)|refine wF 18 (cm c3 ?_)|refine wF 58 (pu d1 ?_)|refine wF 58 (pu d2 ?_)|refine wF 56 (pu e1 ?_)|refine wF 56 (pu e2 ?_)|refine wF 56 (pu e3 ?_)|(refine wF 55 ?_;refine CallG.we db rfl ⟨VLe.refl _,VLe.s SLe.row0,trivial⟩ rfl rfl rfl ?_)|(refine wF 55 ?_;refine CallG.pl nS [] [f1,f2,r1,r2,rb] (fun _ _=>rfl) da rfl rfl rfl rfl rfl (by first|rfl|simp) (by first|rfl|simp|(rw[List.map_append];rfl)) rfl ⟨VLe.refl _,VLe.refl _,trivial⟩ rfl rfl rfl ?_)|(refine wF 55 ?_;refine CallG.pl nS [] [g1,r1,r2,rb] (fun _ _=>rfl) dc rfl rfl rfl rfl rfl (by first|rfl|simp) (by first|rfl|simp|(rw[List.map_append];rfl)) rfl ⟨VLe.refl _,VLe.refl _,trivial⟩ rfl rfl rfl ?_))|exact ac (by decide) (by decide)|exact aa (by decide) (by decide)|exact ac (by omega) (by omega)|exact aa (by omega) (by omega)|refine y3 ?_|refine y7 ?_ ?_|refine y4 ?_|(refine y9 ?_ ?_<;>intro h)|exact y5|fail)
     all_goals first
      |exact⟨.inl rfl,_,[],VLe.refl _,EndOK.by rfl ⟨rfl,trivial⟩ rfl rfl rfl rfl⟩
      |omega
      |exact ac (by omega) (by omega)
      |exact aa (by omega) (by omega)
    |cons x D=>
     repeat'(first|exact y0|refine y1 ?_|refine y2 ?_ ?_|(refine y8 ?_ ?_<;>intro h<;>try exact y6)|(refine wC ?_;first|refine wF 18 (cm c2 ?_)|refine wF 18 (cm c3 ?_)|refine wF 58 (pu d1 ?_)|refine wF 58 (pu d2 ?_)|refine wF 56 (pu e1 ?_)|refine wF 56 (pu e2 ?_)|refine wF 56 (pu e3 ?_)|(refine wF 55 ?_;refine CallG.pl nS [] (x::D) (fun _ _=>rfl) db rfl rfl rfl rfl rfl (by first|rfl|simp) (by first|rfl|simp|(rw[List.map_append];rfl)) rfl ⟨VLe.refl _,VLe.refl _,trivial⟩ rfl rfl rfl ?_)|(refine wF 55 ?_;refine CallG.pl nS [] [f1,f2,r1,r2,rb] (fun _ _=>rfl) da rfl rfl rfl rfl rfl (by first|rfl|simp) (by first|rfl|simp|(rw[List.map_append];rfl)) rfl ⟨VLe.refl _,VLe.refl _,trivial⟩ rfl rfl rfl ?_)|(refine wF 55 ?_;refine CallG.pl nS [] [g1,r1,r2,rb] (fun _ _=>rfl) dc rfl rfl rfl rfl rfl (by first|rfl|simp) (by first|rfl|simp|(rw[List.map_append];rfl)) rfl ⟨VLe.refl _,VLe.refl _,trivial⟩ rfl rfl rfl ?_))|exact ac (by decide) (by decide)|exact aa (by decide) (by decide)|exact ac (by omega) (by omega)|exact aa (by omega) (by omega)|refine y3 ?_|refine y7 ?_ ?_|refine y4 ?_|(refine y9 ?_ ?_<;>intro h)|exact y5|fail)
     all_goals first
      |exact⟨.inl rfl,_,[],VLe.refl _,EndOK.by rfl ⟨rfl,trivial⟩ rfl rfl rfl rfl⟩
      |omega
      |exact ac (by omega) (by omega)
      |exact aa (by omega) (by omega)
  ·rcases (by omega:k=0\/k=1\/k=2) with rfl|rfl|rfl
   all_goals
    subst hwd;cases idx
    all_goals
     cases D with
     |nil=>
      repeat'(first|exact y0|refine y1 ?_|refine y2 ?_ ?_|(refine y8 ?_ ?_<;>intro h<;>try exact y6)|(refine wC ?_;first|refine wF 18 (cm c2 ?_)|refine wF 18 (cm c3 ?_)|refine wF 58 (pu d1 ?_)|refine wF 58 (pu d2 ?_)|refine wF 56 (pu e1 ?_)|refine wF 56 (pu e2 ?_)|refine wF 56 (pu e3 ?_)|(refine wF 55 ?_;refine CallG.we db rfl ⟨VLe.refl _,VLe.s SLe.row0,trivial⟩ rfl rfl rfl ?_)|(refine wF 55 ?_;refine CallG.pl nS [] [f1,f2,r1,r2,rb] (fun _ _=>rfl) da rfl rfl rfl rfl rfl (by first|rfl|simp) (by first|rfl|simp|(rw[List.map_append];rfl)) rfl ⟨VLe.refl _,VLe.refl _,trivial⟩ rfl rfl rfl ?_)|(refine wF 55 ?_;refine CallG.pl nS [] [g1,r1,r2,rb] (fun _ _=>rfl) dc rfl rfl rfl rfl rfl (by first|rfl|simp) (by first|rfl|simp|(rw[List.map_append];rfl)) rfl ⟨VLe.refl _,VLe.refl _,trivial⟩ rfl rfl rfl ?_))|exact ac (by decide) (by decide)|exact aa (by decide) (by decide)|exact ac (by omega) (by omega)|exact aa (by omega) (by omega)|refine y3 ?_|refine y7 ?_ ?_|refine y4 ?_|(refine y9 ?_ ?_<;>intro h)|exact y5|fail)
      all_goals first
       |exact⟨.inl rfl,_,[],VLe.refl _,EndOK.by rfl ⟨rfl,trivial⟩ rfl rfl rfl rfl⟩
       |omega
       |exact ac (by omega) (by omega)
       |exact aa (by omega) (by omega)
     |cons x D=>
      repeat'(first|exact y0|refine y1 ?_|refine y2 ?_ ?_|(refine y8 ?_ ?_<;>intro h<;>try exact y6)|(refine wC ?_;first|refine wF 18 (cm c2 ?_)|refine wF 18 (cm c3 ?_)|refine wF 58 (pu d1 ?_)|refine wF 58 (pu d2 ?_)|refine wF 56 (pu e1 ?_)|refine wF 56 (pu e2 ?_)|refine wF 56 (pu e3 ?_)|(refine wF 55 ?_;refine CallG.pl nS [] (x::D) (fun _ _=>rfl) db rfl rfl rfl rfl rfl (by first|rfl|simp) (by first|rfl|simp|(rw[List.map_append];rfl)) rfl ⟨VLe.refl _,VLe.refl _,trivial⟩ rfl rfl rfl ?_)|(refine wF 55 ?_;refine CallG.pl nS [] [f1,f2,r1,r2,rb] (fun _ _=>rfl) da rfl rfl rfl rfl rfl (by first|rfl|simp) (by first|rfl|simp|(rw[List.map_append];rfl)) rfl ⟨VLe.refl _,VLe.refl _,trivial⟩ rfl rfl rfl ?_)|(refine wF 55 ?_;refine CallG.pl nS [] [g1,r1,r2,rb] (fun _ _=>rfl) dc rfl rfl rfl rfl rfl (by first|rfl|simp) (by first|rfl|simp|(rw[List.map_append];rfl)) rfl ⟨VLe.refl _,VLe.refl _,trivial⟩ rfl rfl rfl ?_))|exact ac (by decide) (by decide)|exact aa (by decide) (by decide)|exact ac (by omega) (by omega)|exact aa (by omega) (by omega)|refine y3 ?_|refine y7 ?_ ?_|refine y4 ?_|(refine y9 ?_ ?_<;>intro h)|exact y5|fail)
      all_goals first
       |exact⟨.inl rfl,_,[],VLe.refl _,EndOK.by rfl ⟨rfl,trivial⟩ rfl rfl rfl rfl⟩
       |omega
       |exact ac (by omega) (by omega)
       |exact aa (by omega) (by omega)
 | @skip s ns _ j1 j2 j3 _ m' q r1' r2' r3' r4' r5' R' hq hm' c cc2 dd1 dd2 dd3 cc3 dd4 dd5 t=>
   have hjl2:j<names.length:=by
    rcases Nat.lt_or_ge j names.length with h|h
    ·exact h
    ·rw[List.drop_eq_nil_of_le h] at hj;cases hj
   have hjs:names.drop (j+1)=ns/\names.getD j []=s:=by
    rw[List.drop_eq_getElem_cons hjl2] at hj
    injection hj with a b
    exact⟨b,by rw[List.getD_eq_getElem?_getD,List.getElem?_eq_getElem hjl2];exact a⟩
   simp only[List.length_cons] at hDK;unfold bg at dd2 dd5;rw[<-hjs.2] at dd3
   repeat'(first|exact y0|refine y1 ?_|refine y2 ?_ ?_|(refine y8 ?_ ?_<;>intro h<;>try exact y6)|(refine wC ?_;first|refine wF 18 (cm c ?_)|refine wF 18 (cm cc2 ?_)|refine wF 18 (cm cc3 ?_)|refine wF 58 (pu dd1 ?_)|refine wF 58 (pu dd4 ?_)|refine wF 56 (pu dd3 ?_)|(refine wF 55 ?_;refine CallG.pl nS [] [r1'] (fun _ _=>rfl) dd2 rfl rfl rfl rfl rfl (by first|rfl|simp) (by first|rfl|simp|(rw[List.map_append];rfl)) rfl ⟨VLe.refl _,VLe.refl _,trivial⟩ rfl rfl rfl ?_)|(refine wF 55 ?_;refine CallG.pl nS [] [r3',r4'] (fun _ _=>rfl) dd5 rfl rfl rfl rfl rfl (by first|rfl|simp) (by first|rfl|simp|(rw[List.map_append];rfl)) rfl ⟨VLe.refl _,VLe.refl _,trivial⟩ rfl rfl rfl ?_))|exact ac (by omega) (by omega)|exact aa (by omega) (by omega)|refine RegX.apr (i:=1) (g:=2) (m:=D.length) (w:=1) (cs:=D.map fun r=>nS r) (foot:=[4]) (k:=1) (add:=[nS r2']) rfl rfl (by simp) rfl rfl rfl rfl rfl rfl rfl hsz (by decide) rfl ⟨Nat.le_refl _,rfl⟩ (by decide) (by simp) rfl (by rw[hby];omega) (by omega) rfl ?_|refine RegX.apr (i:=5) (g:=6) (m:=D.length+1) (w:=1) (cs:=(D.map fun r=>nS r)++[nS r2']) (foot:=[8]) (k:=1) (add:=[nS r5']) rfl rfl (by simp) rfl rfl rfl rfl rfl rfl rfl hsz (by decide) rfl ⟨Nat.le_refl _,rfl⟩ (by decide) (by simp) rfl (by rw[hby];omega) (by omega) rfl ?_|refine y3 ?_|refine y7 ?_ ?_|refine y4 ?_|(refine y9 ?_ ?_<;>intro h)|exact y5|fail)
   all_goals try first
    |exact aa (by push_cast;omega) (by push_cast;omega)
    |omega
   refine LoopR.move (ns,j+1,j3,D++[r2',r5']) ⟨hjs.1,hjl2,R',t,by simpa using hD⟩ (by first|(simp only;omega)|(simp only[List.length_cons];omega)) [0,9,10] rfl ?_ ?_ ?_
   ·repeat' (first|exact VLe.refl _|exact VLe.any _|exact True.intro|exact VLe.of_eq (congrArg nI (by push_cast;omega))|(refine VLe.of_eq (congrArg V.s (?_:S.row 9 10 _=S.row 9 10 _));simp;done)|refine⟨?_,?_⟩)
   ·refine⟨rfl,MemP.op ?_ trivial⟩
    rw[show List.map (fun r=>nS r) (D++[r2',r5'])=((D.map fun r=>nS r)++[nS r2'])++[nS r5'] from by simp];rfl
   ·exact (by unfold iO;generalize List.map _ _=cg;cases cg<;>rfl)
 | @unit s ns _ j2 j3 _ k' q r3' r4' r5' R' hq hk' c dd3 cc3 dd4 dd5 t=>
   have hjl2:j<names.length:=by
    rcases Nat.lt_or_ge j names.length with h|h
    ·exact h
    ·rw[List.drop_eq_nil_of_le h] at hj;cases hj
   have hjs:names.drop (j+1)=ns/\names.getD j []=s:=by
    rw[List.drop_eq_getElem_cons hjl2] at hj
    injection hj with a b
    exact⟨b,by rw[List.getD_eq_getElem?_getD,List.getElem?_eq_getElem hjl2];exact a⟩
   simp only[List.length_cons] at hDK;unfold bg at dd5;rw[<-hjs.2] at dd3
   repeat'(first|exact y0|refine y1 ?_|refine y2 ?_ ?_|(refine y8 ?_ ?_<;>intro h<;>try exact y6)|(refine wC ?_;first|refine wF 18 (cm c ?_)|refine wF 18 (cm cc3 ?_)|refine wF 58 (pu dd4 ?_)|refine wF 56 (pu dd3 ?_)|(refine wF 55 ?_;refine CallG.pl nS [] [r3',r4'] (fun _ _=>rfl) dd5 rfl rfl rfl rfl rfl (by first|rfl|simp) (by first|rfl|simp|(rw[List.map_append];rfl)) rfl ⟨VLe.refl _,VLe.refl _,trivial⟩ rfl rfl rfl ?_))|exact ac (by omega) (by omega)|exact aa (by omega) (by omega)|refine RegX.apr (i:=1) (g:=2) (m:=D.length) (w:=1) (cs:=D.map fun r=>nS r) (foot:=[4]) (k:=1) (add:=[nS r5']) rfl rfl (by simp) rfl rfl rfl rfl rfl rfl rfl hsz (by decide) rfl ⟨Nat.le_refl _,rfl⟩ (by decide) (by simp) rfl (by rw[hby];omega) (by omega) rfl ?_|refine y3 ?_|refine y7 ?_ ?_|refine y4 ?_|(refine y9 ?_ ?_<;>intro h)|exact y5|fail)
   all_goals try first
    |exact aa (by push_cast;omega) (by push_cast;omega)
    |omega
   refine LoopR.move (ns,j+1,j3,D++[r5']) ⟨hjs.1,hjl2,R',t,by simpa using hD⟩ (by first|(simp only;omega)|(simp only[List.length_cons];omega)) [0,5,6] rfl ?_ ?_ ?_
   ·repeat' (first|exact VLe.refl _|exact VLe.any _|exact True.intro|exact VLe.of_eq (congrArg nI (by push_cast;omega))|(refine VLe.of_eq (congrArg V.s (?_:S.row 5 6 _=S.row 5 6 _));simp;done)|refine⟨?_,?_⟩)
   ·refine⟨rfl,MemP.op ?_ trivial⟩
    rw[List.map_append];rfl
   ·exact (by unfold iO;generalize List.map _ _=cg;cases cg<;>rfl)
set_option maxRecDepth 100000
set_option maxHeartbeats 4000000
def BJ (l:List Int) (dep:Int) (args:Nat) (loop:Bool) (B:Nat):Prop:=∀ i,i<=l.length->∃ (r:List Nd) (i':Nat),OKr B r/\i'<=l.length/\FC Tryz.prog 168 [cP,nI dep,nI args,bV loop] 1 (chL l i) (ae r) 1 (chL l i')
def BlockE (l:List Int) (dep:Int) (args:Nat) (loop:Bool) (B:Nat):Prop:=∀ i,i<=l.length->∃ (r:List Nd) (i':Nat),OKr B r/\i'<=l.length/\FC Tryz.prog 104 [cP,nI dep,nI args,bV loop] 1 (chL l i) (ae r) 1 (chL l i')
inductive BlT (l:List Int) (dep:Int) (args:Nat) (loop:Bool):Nat->Nat->List (List Nd)->Nat->Prop
 |nil (i:Nat):BlT l dep args loop 0 i [] i
 |stop {n i:Nat} (c:FC Tryz.prog 46 [cP] 1 (chL l i) (bV false) 1 (chL l i)):BlT l dep args loop (n+1) i [] i
 |last {n i i1:Nat} {x:Nd} {r:List Nd} (c:FC Tryz.prog 46 [cP] 1 (chL l i) (bV true) 1 (chL l i)) (c2:FC Tryz.prog 168 [cP,nI dep,nI args,bV loop] 1 (chL l i) (ae (x::r)) 1 (chL l i1))
  (ho:x.op=33\/x.op=34\/x.op=35):BlT l dep args loop (n+1) i [x::r] i1
 |cons {n i i1 i':Nat} {x:Nd} {r:List Nd} {K:List (List Nd)} (c:FC Tryz.prog 46 [cP] 1 (chL l i) (bV true) 1 (chL l i)) (c2:FC Tryz.prog 168 [cP,nI dep,nI args,bV loop] 1 (chL l i) (ae (x::r)) 1 (chL l i1))
  (h1: ¬x.op=33) (h2: ¬x.op=34) (h3: ¬x.op=35) (t:BlT l dep args loop n i1 K i'):BlT l dep args loop (n+1) i ((x::r)::K) i'
theorem FY {l:List Int} {dep:Int} {args:Nat} {loop:Bool} {n i i':Nat} {K:List (List Nd)} (h:BlT l dep args loop n i K i'):K.length<=n:=by
 induction h with
 |nil i=>simp
 |stop _=>simp
 |last _ _ _=>simp
 |cons _ _ _ _ _ _ ih=>simp;omega
theorem G5 (l:List Int) (hl:l.length<=20000000000000) (dep:Int) (args:Nat) (loop:Bool) (B:Nat) (hS:BJ l dep args loop B):∀ (n i:Nat),i<=l.length->∃ K i',BlT l dep args loop n i K i'/\i'<=l.length/\∀ r∈K,OKr B r
 |0,i,hi=>⟨[],i,.nil i,hi,fun r hr=>by cases hr⟩
 |n+1,i,hi=>by
  obtain⟨b,hb,c⟩:=za l hl i hi
  cases b with
  |false=>exact⟨[],i,.stop c,hi,fun r hr=>by cases hr⟩
  |true=>
   obtain⟨r,i1,o,hi1,c2⟩:=hS i hi;obtain⟨x,r,rfl⟩:=List.exists_cons_of_ne_nil o.ne;by_cases ho:x.op=33\/x.op=34\/x.op=35
   ·exact⟨[x::r],i1,.last c c2 ho,hi1,fun q hq=>by rw[List.mem_singleton.1 hq];exact o⟩
   ·obtain⟨K,i',h1,h2,h4⟩:=G5 l hl dep args loop B hS n i1 hi1
    refine⟨(x::r)::K,i',.cons c c2 (fun h=>ho (.inl h)) (fun h=>ho (.inr (.inl h))) (fun h=>ho (.inr (.inr h))) h1,h2,fun q hq=>?_⟩
    rcases List.mem_cons.1 hq with rfl|hq
    ·exact o
    ·exact h4 q hq
theorem kK (l:List Int) (hl:l.length<=20000000000000) (dep:Int) (args:Nat) (loop:Bool) (B:Nat) (hB2:B<=100000000000) (hS:BJ l dep args loop B):BlockE l dep args loop (1+3*B):=by
 intro i hi;obtain⟨m,i2,hm2,hi2,c2⟩:=am l hl 4 (by decide) (by decide) i hi;obtain⟨K,i3,hB,hi3,hK⟩:=G5 l hl dep args loop B hS m i2 hi2;have hKl:=FY hB;have hKB:K.length*B<=3*B:=Nat.mul_le_mul_right B (by omega);obtain⟨r,o,dn⟩:=au 4 K (B:=B) (1+3*B) hK (by omega) (by omega) (by omega);unfold bg at dn;refine⟨r,i3,o,hi3,?_⟩
 have hsz:(Tryz.prog.types[32]).size=1:=by kernel_rfl
 have hby:(Tryz.prog.types[32]).bytes=24:=by kernel_rfl
 refine FC.walk (by kernel_rfl) Tryz.func104 rfl rfl ?_
 repeat'(first|exact y0|refine y1 ?_|refine y2 ?_ ?_|(refine y8 ?_ ?_<;>intro h<;>try exact y6)|(refine wC ?_;first|refine wF 18 (cm c2 ?_))|refine y3 ?_|refine y7 ?_ ?_|refine y4 ?_|(refine y9 ?_ ?_<;>intro h)|exact y5|fail)
 refine Ex.set 9 (.s (.row 1 2 0)) (VLe.s SLe.nilrow) rfl (Ex.upN (n':=3) (by omega) ?_)
 refine Ex.inv (σ:=Nat×Nat×List (List Nd)) (fun s=>[(9,.s (.row 1 2 s.2.2.length)),(10,nI s.1)]) (fun s=>[(0,some {cells:=[chF l,.int .i64 (s.2.1:Int)],ty:=97}),(1,iO 1 s.2.2)])
  (fun s=>∃ R,BlT l dep args loop s.1 s.2.1 R i3/\s.2.2++R=K/\s.2.2.length+s.1<=3) (fun s=>s.1) (m,i2,[]) rfl (fun _=>rfl) ⟨K,hB,rfl,by simp;omega⟩ ⟨VLe.refl _,VLe.refl _,trivial⟩ ⟨rfl,trivial⟩ ?_
 rintro⟨n,j,D⟩ ⟨R,hR,hD,hDn⟩;simp only at hR hD hDn |-
 cases hR with
 |nil=>
  rw[List.append_nil] at hD;subst hD
  cases D with
  |nil=>
   repeat'(first|exact y0|refine y1 ?_|refine y2 ?_ ?_|(refine y8 ?_ ?_<;>intro h<;>try exact y6)|(refine wC ?_;first|(refine wF 55 ?_;refine CallG.we dn rfl ⟨VLe.refl _,VLe.s SLe.row0,trivial⟩ rfl rfl rfl ?_))|exact ac (by omega) (by omega)|exact aa (by omega) (by omega)|refine y3 ?_|refine y7 ?_ ?_|refine y4 ?_|(refine y9 ?_ ?_<;>intro h)|exact y5|fail)
   all_goals first
    |exact⟨.inl rfl,_,[],VLe.refl _,EndOK.by rfl ⟨rfl,trivial⟩ rfl rfl rfl rfl⟩
    |omega
    |exact ac (by omega) (by omega)
    |exact aa (by omega) (by omega)
  |cons x D=>
   repeat'(first|exact y0|refine y1 ?_|refine y2 ?_ ?_|(refine y8 ?_ ?_<;>intro h<;>try exact y6)|(refine wC ?_;first|(refine wF 55 ?_;refine CallG.pl nS [] (x::D) (fun _ _=>rfl) dn rfl rfl rfl rfl rfl (by first|rfl|simp) (by first|rfl|simp|(rw[List.map_append];rfl)) rfl ⟨VLe.refl _,VLe.refl _,trivial⟩ rfl rfl rfl ?_))|exact ac (by omega) (by omega)|exact aa (by omega) (by omega)|refine y3 ?_|refine y7 ?_ ?_|refine y4 ?_|(refine y9 ?_ ?_<;>intro h)|exact y5|fail)
   all_goals first
    |exact⟨.inl rfl,_,[],VLe.refl _,EndOK.by rfl ⟨rfl,trivial⟩ rfl rfl rfl rfl⟩
    |omega
    |exact ac (by omega) (by omega)
    |exact aa (by omega) (by omega)
 |stop c=>
  rw[List.append_nil] at hD;subst hD
  cases D with
  |nil=>
   repeat'(first|exact y0|refine y1 ?_|refine y2 ?_ ?_|(refine y8 ?_ ?_<;>intro h<;>try exact y6)|(refine wC ?_;first|refine wF 46 (cm c ?_)|(refine wF 55 ?_;refine CallG.we dn rfl ⟨VLe.refl _,VLe.s SLe.row0,trivial⟩ rfl rfl rfl ?_))|exact ac (by omega) (by omega)|exact aa (by omega) (by omega)|refine y3 ?_|refine y7 ?_ ?_|refine y4 ?_|(refine y9 ?_ ?_<;>intro h)|exact y5|fail)
   all_goals first
    |exact⟨.inl rfl,_,[],VLe.refl _,EndOK.by rfl ⟨rfl,trivial⟩ rfl rfl rfl rfl⟩
    |omega
    |exact ac (by omega) (by omega)
    |exact aa (by omega) (by omega)
  |cons x D=>
   repeat'(first|exact y0|refine y1 ?_|refine y2 ?_ ?_|(refine y8 ?_ ?_<;>intro h<;>try exact y6)|(refine wC ?_;first|refine wF 46 (cm c ?_)|(refine wF 55 ?_;refine CallG.pl nS [] (x::D) (fun _ _=>rfl) dn rfl rfl rfl rfl rfl (by first|rfl|simp) (by first|rfl|simp|(rw[List.map_append];rfl)) rfl ⟨VLe.refl _,VLe.refl _,trivial⟩ rfl rfl rfl ?_))|exact ac (by omega) (by omega)|exact aa (by omega) (by omega)|refine y3 ?_|refine y7 ?_ ?_|refine y4 ?_|(refine y9 ?_ ?_<;>intro h)|exact y5|fail)
   all_goals first
    |exact⟨.inl rfl,_,[],VLe.refl _,EndOK.by rfl ⟨rfl,trivial⟩ rfl rfl rfl rfl⟩
    |omega
    |exact ac (by omega) (by omega)
    |exact aa (by omega) (by omega)
 | @last n _ j1 x0 r0 c cc2 ho=>
   subst hD;obtain⟨op0,n0,s0,k0⟩:=x0;simp only at ho
   rcases ho with rfl|rfl|rfl
   all_goals
    cases D with
    |nil=>
     simp only[List.length_cons,List.length_nil] at hDn
     repeat'(first|exact y0|refine y1 ?_|refine y2 ?_ ?_|(refine y8 ?_ ?_<;>intro h<;>try(first|(first|exact absurd rfl (by assumption)|exact absurd (by assumption) (by decide)|(exfalso;omega))|exact y6))|(refine wC ?_;first|refine wF 46 (cm c ?_)|refine wF 168 (cm cc2 ?_)|(refine wF 55 ?_;refine CallG.pl nS [] ([]++[⟨_,n0,s0,k0⟩::r0]) (fun _ _=>rfl) dn rfl rfl rfl rfl rfl (by first|rfl|simp) (by first|rfl|simp|(rw[List.map_append];rfl)) rfl ⟨VLe.refl _,VLe.refl _,trivial⟩ rfl rfl rfl ?_))|exact ac (by omega) (by omega)|exact aa (by omega) (by omega)|exact Nat.succ_pos (List.length r0)|refine RegX.apr (i:=1) (g:=2) (m:=0) (w:=1) (cs:=[]) (foot:=[3]) (k:=1) (add:=[nS (⟨_,n0,s0,k0⟩::r0)]) rfl rfl (by simp) rfl rfl rfl rfl rfl rfl rfl hsz (by decide) rfl ⟨Nat.le_refl _,rfl⟩ (by decide) (by simp) rfl (by rw[hby];omega) (by omega) rfl ?_|refine y3 ?_|refine y7 ?_ ?_|refine y4 ?_|(refine y9 ?_ ?_<;>intro h)|exact y5|fail)
     all_goals first
      |exact⟨.inl rfl,_,[],VLe.refl _,EndOK.by rfl ⟨rfl,trivial⟩ rfl rfl rfl rfl⟩
      |omega
      |exact ac (by omega) (by omega)
      |exact aa (by omega) (by omega)
    |cons y D=>
     simp only[List.length_cons,List.length_nil] at hDn
     repeat'(first|exact y0|refine y1 ?_|refine y2 ?_ ?_|(refine y8 ?_ ?_<;>intro h<;>try(first|(first|exact absurd rfl (by assumption)|exact absurd (by assumption) (by decide)|(exfalso;omega))|exact y6))|(refine wC ?_;first|refine wF 46 (cm c ?_)|refine wF 168 (cm cc2 ?_)|(refine wF 55 ?_;refine CallG.pl nS [] ((y::D)++[⟨_,n0,s0,k0⟩::r0]) (fun _ _=>rfl) dn rfl rfl rfl rfl rfl (by first|rfl|simp) (by first|rfl|simp|(rw[List.map_append];rfl)) rfl ⟨VLe.refl _,VLe.refl _,trivial⟩ rfl rfl rfl ?_))|exact ac (by omega) (by omega)|exact aa (by omega) (by omega)|exact Nat.succ_pos (List.length r0)|refine RegX.apr (i:=1) (g:=2) (m:=D.length+1) (w:=1) (cs:=(y::D).map fun r=>nS r) (foot:=[3]) (k:=1) (add:=[nS (⟨_,n0,s0,k0⟩::r0)]) rfl rfl (by simp) rfl rfl rfl rfl rfl rfl rfl hsz (by decide) rfl ⟨Nat.le_refl _,rfl⟩ (by decide) (by simp) rfl (by rw[hby];omega) (by omega) rfl ?_|refine y3 ?_|refine y7 ?_ ?_|refine y4 ?_|(refine y9 ?_ ?_<;>intro h)|exact y5|fail)
     all_goals first
      |exact⟨.inl rfl,_,[],VLe.refl _,EndOK.by rfl ⟨rfl,trivial⟩ rfl rfl rfl rfl⟩
      |omega
      |exact ac (by omega) (by omega)
      |exact aa (by omega) (by omega)
 | @cons n _ j1 _ x0 r0 R' c cc2 h1 h2 h3 t=>
   repeat'(first|exact y0|refine y1 ?_|refine y2 ?_ ?_|(refine y8 ?_ ?_<;>intro h<;>try(exact y6))|(refine wC ?_;first|refine wF 46 (cm c ?_)|refine wF 168 (cm cc2 ?_))|exact ac (by omega) (by omega)|exact aa (by omega) (by omega)|exact Nat.succ_pos (List.length r0)|refine RegX.apr (i:=1) (g:=2) (m:=D.length) (w:=1) (cs:=D.map fun r=>nS r) (foot:=[3]) (k:=1) (add:=[nS (x0::r0)]) rfl rfl (by simp) rfl rfl rfl rfl rfl rfl rfl hsz (by decide) rfl ⟨Nat.le_refl _,rfl⟩ (by decide) (by simp) rfl (by rw[hby];omega) (by omega) rfl ?_|refine y3 ?_|refine y7 ?_ ?_|refine y4 ?_|(refine y9 ?_ ?_<;>intro h)|exact y5|fail)
   all_goals try first
    |exact aa (by push_cast;omega) (by push_cast;omega)
    |omega
   refine LoopR.move (n,j1,D++[x0::r0]) ⟨R',t,by simpa using hD,by simp;omega⟩ (by first|(simp only;omega)|(simp only[List.length_cons];omega)) [0,4,5] rfl ?_ ?_ ?_
   ·repeat' (first|exact VLe.refl _|exact VLe.any _|exact True.intro|exact VLe.of_eq (congrArg nI (by push_cast;omega))|(refine VLe.of_eq (congrArg V.s (?_:S.row 4 5 _=S.row 4 5 _));simp;done)|refine⟨?_,?_⟩)
   ·refine⟨rfl,MemP.op ?_ trivial⟩
    rw[List.map_append];rfl
   ·exact (by unfold iO;generalize List.map _ _=cg;cases cg<;>rfl)
end Go.Proofs.YtegjgpldfgjoiaaGreatDoor
