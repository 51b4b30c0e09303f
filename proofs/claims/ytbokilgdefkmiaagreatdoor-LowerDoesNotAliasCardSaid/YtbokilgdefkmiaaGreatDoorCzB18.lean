import Derived.Test.YtbokilgdefkmiaaGreatDoorCzB17
import Derived.Test.YtbokilgdefkmiaaGreatDoorCzB16
import Derived.Test.YtbokilgdefkmiaaGreatDoorCzB08
set_option linter.unusedSimpArgs false
set_option linter.unusedVariables false
namespace Go.Proofs.YtbokilgdefkmiaaGreatDoor
open Go Ab
set_option maxRecDepth 100000
set_option maxHeartbeats 4000000
theorem stmt_e (l:List Int) (hl:l.length≤20000000000000) (dep:Int) (h1: -1≤dep) (h2:dep≤3) (args:Nat) (ha:args≤100) (B:Nat) (hB1:3000≤B) (hB2:B≤10000000000) (hB:0<dep→∀ loop,BlockE l (dep-1) args loop B) (loop:Bool):
 StmtE l dep args loop (12100+3*B):=by
 intro i hi
 have eE:∀ d:Int,-10≤d→d≤3→ExprE l d args 3000:=fun d p q=>expr_e l hl args ha d p q
 obtain⟨k,i1,hk,hi1,c1⟩:=next_c l hl 14 (by decide) (by decide) i hi;by_cases hc:k=1∧0<dep
 ·obtain⟨rfl,hd⟩:=hc
  obtain⟨q,i2,hq,hi2,c2⟩:=next_c l hl 2 (by decide) (by decide) i1 hi1;obtain⟨r1,i3,o1,hi3,c3⟩:=eE 1 (by decide) (by decide) i2 hi2;obtain⟨r2,i4,o2,hi4,c4⟩:=hB hd loop i3 hi3;by_cases hq0:q=0
  ·subst hq0
   obtain⟨r,o,dn⟩:=node_e 31 [r1,r2] (B:=B) (12100+3*B) (by simp[o1.le hB1,o2]) (by first|(simp;done)|(simp;omega)) (by simp) (by first|(simp;done)|(simp;omega));unfold kidF at dn;refine⟨r,i4,o,hi4,?_⟩;refine FC.walk (by kernel_rfl) Tryz.func82 rfl rfl ?_
   repeat'(first|exact y0|refine y1 ?_|refine y2 ?_ ?_|(refine y8 ?_ ?_<;>intro h<;>try(exact y6))|(refine wC ?_;first|refine wF 28 (cm c1 ?_)|refine wF 28 (cm c2 ?_)|refine wF 130 (cm c3 ?_)|refine wF 50 (cm c4 ?_)|(refine wF 25 ?_;refine CallG.pl nS [] [r1,r2] (fun _ _=>rfl) dn rfl rfl rfl rfl rfl (by first|rfl|simp) (by first|rfl|simp|(rw[List.map_append];rfl)) rfl ⟨VLe.refl _,VLe.refl _,trivial⟩ rfl rfl rfl ?_))|exact u64_in (by omega) (by omega)|exact i64_in (by omega) (by omega)|refine y3 ?_|refine y7 ?_ ?_|refine y4 ?_|(refine y9 ?_ ?_<;>intro h)|exact y5|fail)
   all_goals first
    |exact⟨.inl rfl,_,[],VLe.refl _,EndOK.by rfl ⟨rfl,trivial⟩ rfl rfl rfl rfl⟩
    |omega
    |exact u64_in (by omega) (by omega)
    |exact i64_in (by omega) (by omega)
  ·obtain⟨r3,i5,o3,hi5,c5⟩:=hB hd loop i4 hi4
   obtain⟨r,o,dn⟩:=node_e 31 [r1,r2,r3] (B:=B) (12100+3*B) (by simp[o1.le hB1,o2,o3]) (by first|(simp;done)|(simp;omega)) (by simp) (by first|(simp;done)|(simp;omega));unfold kidF at dn;refine⟨r,i5,o,hi5,?_⟩;refine FC.walk (by kernel_rfl) Tryz.func82 rfl rfl ?_
   repeat'(first|exact y0|refine y1 ?_|refine y2 ?_ ?_|(refine y8 ?_ ?_<;>intro h<;>try(exact y6))|(refine wC ?_;first|refine wF 28 (cm c1 ?_)|refine wF 28 (cm c2 ?_)|refine wF 130 (cm c3 ?_)|refine wF 50 (cm c4 ?_)|refine wF 50 (cm c5 ?_)|(refine wF 25 ?_;refine CallG.pl nS [] [r1,r2,r3] (fun _ _=>rfl) dn rfl rfl rfl rfl rfl (by first|rfl|simp) (by first|rfl|simp|(rw[List.map_append];rfl)) rfl ⟨VLe.refl _,VLe.refl _,trivial⟩ rfl rfl rfl ?_))|exact u64_in (by omega) (by omega)|exact i64_in (by omega) (by omega)|refine y3 ?_|refine y7 ?_ ?_|refine y4 ?_|(refine y9 ?_ ?_<;>intro h)|exact y5|fail)
   all_goals first
    |exact⟨.inl rfl,_,[],VLe.refl _,EndOK.by rfl ⟨rfl,trivial⟩ rfl rfl rfl rfl⟩
    |omega
    |exact u64_in (by omega) (by omega)
    |exact i64_in (by omega) (by omega)
 by_cases hc:k=2∧0<dep
 ·obtain⟨rfl,hd⟩:=hc
  obtain⟨r1,i3,o1,hi3,c3⟩:=eE 1 (by decide) (by decide) i1 hi1;obtain⟨r2,i4,o2,hi4,c4⟩:=hB hd true i3 hi3;obtain⟨r,o,dn⟩:=node_e 32 [r1,r2] (B:=B) (12100+3*B) (by simp[o1.le hB1,o2]) (by first|(simp;done)|(simp;omega)) (by simp) (by first|(simp;done)|(simp;omega));unfold kidF at dn;refine⟨r,i4,o,hi4,?_⟩;refine FC.walk (by kernel_rfl) Tryz.func82 rfl rfl ?_
  repeat'(first|exact y0|refine y1 ?_|refine y2 ?_ ?_|(refine y8 ?_ ?_<;>intro h<;>try(exact y6))|(refine wC ?_;first|refine wF 28 (cm c1 ?_)|refine wF 130 (cm c3 ?_)|refine wF 50 (cm c4 ?_)|(refine wF 25 ?_;refine CallG.pl nS [] [r1,r2] (fun _ _=>rfl) dn rfl rfl rfl rfl rfl (by first|rfl|simp) (by first|rfl|simp|(rw[List.map_append];rfl)) rfl ⟨VLe.refl _,VLe.refl _,trivial⟩ rfl rfl rfl ?_))|exact u64_in (by omega) (by omega)|exact i64_in (by omega) (by omega)|refine y3 ?_|refine y7 ?_ ?_|refine y4 ?_|(refine y9 ?_ ?_<;>intro h)|exact y5|fail)
  all_goals first
   |exact⟨.inl rfl,_,[],VLe.refl _,EndOK.by rfl ⟨rfl,trivial⟩ rfl rfl rfl rfl⟩
   |omega
   |exact u64_in (by omega) (by omega)
   |exact i64_in (by omega) (by omega)
 by_cases hc:k=3
 ·subst hc
  obtain⟨r1,i3,o1,hi3,c3⟩:=eE dep (by omega) h2 i1 hi1;obtain⟨r,o,dn⟩:=node_e 33 [r1] (B:=B) (12100+3*B) (by simp[o1.le hB1]) (by first|(simp;done)|(simp;omega)) (by simp) (by first|(simp;done)|(simp;omega));unfold kidF at dn;refine⟨r,i3,o,hi3,?_⟩;refine FC.walk (by kernel_rfl) Tryz.func82 rfl rfl ?_
  repeat'(first|exact y0|refine y1 ?_|refine y2 ?_ ?_|(refine y8 ?_ ?_<;>intro h<;>try(exact y6))|(refine wC ?_;first|refine wF 28 (cm c1 ?_)|refine wF 130 (cm c3 ?_)|(refine wF 25 ?_;refine CallG.pl nS [] [r1] (fun _ _=>rfl) dn rfl rfl rfl rfl rfl (by first|rfl|simp) (by first|rfl|simp|(rw[List.map_append];rfl)) rfl ⟨VLe.refl _,VLe.refl _,trivial⟩ rfl rfl rfl ?_))|exact u64_in (by omega) (by omega)|exact i64_in (by omega) (by omega)|refine y3 ?_|refine y7 ?_ ?_|refine y4 ?_|(refine y9 ?_ ?_<;>intro h)|exact y5|fail)
  all_goals first
   |exact⟨.inl rfl,_,[],VLe.refl _,EndOK.by rfl ⟨rfl,trivial⟩ rfl rfl rfl rfl⟩
   |omega
   |exact u64_in (by omega) (by omega)
   |exact i64_in (by omega) (by omega)
 by_cases hc:k=4∧loop=true
 ·obtain⟨rfl,rfl⟩:=hc
  obtain⟨r,o,dn⟩:=node_e 34 [] (B:=0) 1 (fun r hr=>by cases hr) (by simp) (by simp) (by simp);unfold kidF at dn;refine⟨r,i1,o.le (by omega),hi1,?_⟩;refine FC.walk (by kernel_rfl) Tryz.func82 rfl rfl ?_
  repeat'(first|exact y0|refine y1 ?_|refine y2 ?_ ?_|(refine y8 ?_ ?_<;>intro h<;>try(exact y6))|(refine wC ?_;first|refine wF 28 (cm c1 ?_)|(refine wF 25 ?_;refine CallG.we dn rfl ⟨VLe.refl _,VLe.s SLe.nil,trivial⟩ rfl rfl rfl ?_))|exact u64_in (by omega) (by omega)|exact i64_in (by omega) (by omega)|refine y3 ?_|refine y7 ?_ ?_|refine y4 ?_|(refine y9 ?_ ?_<;>intro h)|exact y5|fail)
  all_goals first
   |exact⟨.inl rfl,_,[],VLe.refl _,EndOK.by rfl ⟨rfl,trivial⟩ rfl rfl rfl rfl⟩
   |omega
   |exact u64_in (by omega) (by omega)
   |exact i64_in (by omega) (by omega)
 by_cases hc:k=5∧loop=true
 ·obtain⟨rfl,rfl⟩:=hc
  obtain⟨r,o,dn⟩:=node_e 35 [] (B:=0) 1 (fun r hr=>by cases hr) (by simp) (by simp) (by simp);unfold kidF at dn;refine⟨r,i1,o.le (by omega),hi1,?_⟩;refine FC.walk (by kernel_rfl) Tryz.func82 rfl rfl ?_
  repeat'(first|exact y0|refine y1 ?_|refine y2 ?_ ?_|(refine y8 ?_ ?_<;>intro h<;>try(exact y6))|(refine wC ?_;first|refine wF 28 (cm c1 ?_)|(refine wF 25 ?_;refine CallG.we dn rfl ⟨VLe.refl _,VLe.s SLe.nil,trivial⟩ rfl rfl rfl ?_))|exact u64_in (by omega) (by omega)|exact i64_in (by omega) (by omega)|refine y3 ?_|refine y7 ?_ ?_|refine y4 ?_|(refine y9 ?_ ?_<;>intro h)|exact y5|fail)
  all_goals first
   |exact⟨.inl rfl,_,[],VLe.refl _,EndOK.by rfl ⟨rfl,trivial⟩ rfl rfl rfl rfl⟩
   |omega
   |exact u64_in (by omega) (by omega)
   |exact i64_in (by omega) (by omega)
 by_cases hc:k=6
 ·subst hc
  obtain⟨r1,o1,d1⟩:=name_e [77,84,88] (by decide);obtain⟨r,o,dn⟩:=node_e 36 [r1] (B:=B) (12100+3*B) (by simp[o1.le (show 1≤B by omega)]) (by first|(simp;done)|(simp;omega)) (by simp) (by first|(simp;done)|(simp;omega));unfold kidF at dn;refine⟨r,i1,o,hi1,?_⟩;refine FC.walk (by kernel_rfl) Tryz.func82 rfl rfl ?_
  repeat'(first|exact y0|refine y1 ?_|refine y2 ?_ ?_|(refine y8 ?_ ?_<;>intro h<;>try(exact y6))|(refine wC ?_;first|refine wF 28 (cm c1 ?_)|refine wF 26 (pu d1 ?_)|(refine wF 25 ?_;refine CallG.pl nS [] [r1] (fun _ _=>rfl) dn rfl rfl rfl rfl rfl (by first|rfl|simp) (by first|rfl|simp|(rw[List.map_append];rfl)) rfl ⟨VLe.refl _,VLe.refl _,trivial⟩ rfl rfl rfl ?_))|exact u64_in (by omega) (by omega)|exact i64_in (by omega) (by omega)|refine y3 ?_|refine y7 ?_ ?_|refine y4 ?_|(refine y9 ?_ ?_<;>intro h)|exact y5|fail)
  all_goals first
   |exact⟨.inl rfl,_,[],VLe.refl _,EndOK.by rfl ⟨rfl,trivial⟩ rfl rfl rfl rfl⟩
   |omega
   |exact u64_in (by omega) (by omega)
   |exact i64_in (by omega) (by omega)
 by_cases hc:k=7
 ·subst hc
  obtain⟨q,i2,hq,hi2,c2⟩:=next_c l hl 2 (by decide) (by decide) i1 hi1;obtain⟨r1,o1,d1⟩:=name_e [69,86,84] (by decide);obtain⟨r,o,dn⟩:=node_e (37+(q:Int)) [r1] (B:=B) (12100+3*B) (by simp[o1.le (show 1≤B by omega)]) (by first|(simp;done)|(simp;omega)) (by simp) (by first|(simp;done)|(simp;omega));unfold kidF at dn;refine⟨r,i2,o,hi2,?_⟩;refine FC.walk (by kernel_rfl) Tryz.func82 rfl rfl ?_
  repeat'(first|exact y0|refine y1 ?_|refine y2 ?_ ?_|(refine y8 ?_ ?_<;>intro h<;>try(exact y6))|(refine wC ?_;first|refine wF 28 (cm c1 ?_)|refine wF 28 (cm c2 ?_)|refine wF 26 (pu d1 ?_)|(refine wF 25 ?_;refine CallG.pl nS [] [r1] (fun _ _=>rfl) dn rfl rfl rfl rfl rfl (by first|rfl|simp) (by first|rfl|simp|(rw[List.map_append];rfl)) rfl ⟨VLe.refl _,VLe.refl _,trivial⟩ rfl rfl rfl ?_))|exact u64_in (by omega) (by omega)|exact i64_in (by omega) (by omega)|refine y3 ?_|refine y7 ?_ ?_|refine y4 ?_|(refine y9 ?_ ?_<;>intro h)|exact y5|fail)
  all_goals first
   |exact⟨.inl rfl,_,[],VLe.refl _,EndOK.by rfl ⟨rfl,trivial⟩ rfl rfl rfl rfl⟩
   |omega
   |exact u64_in (by omega) (by omega)
   |exact i64_in (by omega) (by omega)
 by_cases hc:k=8
 ·subst hc
  obtain⟨q,i2,hq,hi2,c2⟩:=next_c l hl 4 (by decide) (by decide) i1 hi1;obtain⟨r1,o1,d1⟩:=int_e q (by omega);obtain⟨r,o,dn⟩:=node_e 39 [r1] (B:=B) (12100+3*B) (by simp[o1.le (show 1≤B by omega)]) (by first|(simp;done)|(simp;omega)) (by simp) (by first|(simp;done)|(simp;omega));unfold kidF at dn;refine⟨r,i2,o,hi2,?_⟩;refine FC.walk (by kernel_rfl) Tryz.func82 rfl rfl ?_
  repeat'(first|exact y0|refine y1 ?_|refine y2 ?_ ?_|(refine y8 ?_ ?_<;>intro h<;>try(exact y6))|(refine wC ?_;first|refine wF 28 (cm c1 ?_)|refine wF 28 (cm c2 ?_)|refine wF 27 (pu d1 ?_)|(refine wF 25 ?_;refine CallG.pl nS [] [r1] (fun _ _=>rfl) dn rfl rfl rfl rfl rfl (by first|rfl|simp) (by first|rfl|simp|(rw[List.map_append];rfl)) rfl ⟨VLe.refl _,VLe.refl _,trivial⟩ rfl rfl rfl ?_))|exact u64_in (by omega) (by omega)|exact i64_in (by omega) (by omega)|refine y3 ?_|refine y7 ?_ ?_|refine y4 ?_|(refine y9 ?_ ?_<;>intro h)|exact y5|fail)
  all_goals first
   |exact⟨.inl rfl,_,[],VLe.refl _,EndOK.by rfl ⟨rfl,trivial⟩ rfl rfl rfl rfl⟩
   |omega
   |exact u64_in (by omega) (by omega)
   |exact i64_in (by omega) (by omega)
 by_cases hc:k=9
 ·subst hc
  obtain⟨s,i2,hs,hi2,c2⟩:=name_c l hl i1 hi1;obtain⟨r1,o1,d1⟩:=name_e s (by omega);obtain⟨r2,i3,o2,hi3,c3⟩:=eE 0 (by decide) (by decide) i2 hi2;obtain⟨r,o,dn⟩:=node_e 40 [r1,r2] (B:=B) (12100+3*B) (by simp[o1.le (show 1≤B by omega),o2.le hB1]) (by first|(simp;done)|(simp;omega)) (by simp) (by first|(simp;done)|(simp;omega));unfold kidF at dn;refine⟨r,i3,o,hi3,?_⟩;refine FC.walk (by kernel_rfl) Tryz.func82 rfl rfl ?_
  repeat'(first|exact y0|refine y1 ?_|refine y2 ?_ ?_|(refine y8 ?_ ?_<;>intro h<;>try(exact y6))|(refine wC ?_;first|refine wF 28 (cm c1 ?_)|refine wF 49 (cm c2 ?_)|refine wF 26 (pu d1 ?_)|refine wF 130 (cm c3 ?_)|(refine wF 25 ?_;refine CallG.pl nS [] [r1,r2] (fun _ _=>rfl) dn rfl rfl rfl rfl rfl (by first|rfl|simp) (by first|rfl|simp|(rw[List.map_append];rfl)) rfl ⟨VLe.refl _,VLe.refl _,trivial⟩ rfl rfl rfl ?_))|exact u64_in (by omega) (by omega)|exact i64_in (by omega) (by omega)|refine y3 ?_|refine y7 ?_ ?_|refine y4 ?_|(refine y9 ?_ ?_<;>intro h)|exact y5|fail)
  all_goals first
   |exact⟨.inl rfl,_,[],VLe.refl _,EndOK.by rfl ⟨rfl,trivial⟩ rfl rfl rfl rfl⟩
   |omega
   |exact u64_in (by omega) (by omega)
   |exact i64_in (by omega) (by omega)
 by_cases hc:k=10
 ·subst hc
  obtain⟨r,i2,o,hi2,c2⟩:=call_e l hl dep (by omega) (by omega) args 3000 ha (by decide) (by decide) (eE _ (by omega) (by omega)) i1 hi1;refine⟨r,i2,o.le (by omega),hi2,?_⟩;refine FC.walk (by kernel_rfl) Tryz.func82 rfl rfl ?_
  repeat'(first|exact y0|refine y1 ?_|refine y2 ?_ ?_|(refine y8 ?_ ?_<;>intro h<;>try(exact y6))|(refine wC ?_;first|refine wF 28 (cm c1 ?_)|refine wF 131 (cm c2 ?_))|exact u64_in (by omega) (by omega)|exact i64_in (by omega) (by omega)|refine y3 ?_|refine y7 ?_ ?_|refine y4 ?_|(refine y9 ?_ ?_<;>intro h)|exact y5|fail)
  all_goals first
   |exact⟨.inl rfl,_,[],VLe.refl _,EndOK.by rfl ⟨rfl,trivial⟩ rfl rfl rfl rfl⟩
   |omega
   |exact u64_in (by omega) (by omega)
   |exact i64_in (by omega) (by omega)
 by_cases hc:k=11
 ·subst hc
  obtain⟨r,i2,o,hi2,c2⟩:=sync_e l hl dep (by omega) (by omega) args 3000 ha (by decide) (by decide) (eE _ (by omega) (by omega)) i1 hi1;refine⟨r,i2,o.le (by omega),hi2,?_⟩;refine FC.walk (by kernel_rfl) Tryz.func82 rfl rfl ?_
  repeat'(first|exact y0|refine y1 ?_|refine y2 ?_ ?_|(refine y8 ?_ ?_<;>intro h<;>try(exact y6))|(refine wC ?_;first|refine wF 28 (cm c1 ?_)|refine wF 132 (cm c2 ?_))|exact u64_in (by omega) (by omega)|exact i64_in (by omega) (by omega)|refine y3 ?_|refine y7 ?_ ?_|refine y4 ?_|(refine y9 ?_ ?_<;>intro h)|exact y5|fail)
  all_goals first
   |exact⟨.inl rfl,_,[],VLe.refl _,EndOK.by rfl ⟨rfl,trivial⟩ rfl rfl rfl rfl⟩
   |omega
   |exact u64_in (by omega) (by omega)
   |exact i64_in (by omega) (by omega)
 obtain⟨r1,i2,o1,hi2,c2⟩:=eE dep (by omega) h2 i1 hi1;obtain⟨r2,i3,o2,hi3,c3⟩:=targ_e l hl dep (by omega) (by omega) args 3000 ha (by decide) (by decide) (fun _=>eE _ (by omega) (by omega)) i2 hi2;obtain⟨r,o,dn⟩:=node_e 30 [r1,r2] (B:=6001) 12003 (by simp[o1.le (show 3000≤6001 by decide),o2.le (show 1+2*3000≤6001 by decide)]) (by simp) (by simp) (by simp);unfold kidF at dn;refine⟨r,i3,o.le (by omega),hi3,?_⟩;by_cases k1:k=1
 ·subst k1
  have hd: ¬dep>0:=by omega
  refine FC.walk (by kernel_rfl) Tryz.func82 rfl rfl ?_
  repeat'(first|exact y0|refine y1 ?_|refine y2 ?_ ?_|(refine y8 ?_ ?_<;>intro h<;>try(exact y6))|(refine wC ?_;first|refine wF 28 (cm c1 ?_)|refine wF 130 (cm c2 ?_)|refine wF 133 (cm c3 ?_)|(refine wF 25 ?_;refine CallG.pl nS [] [r1,r2] (fun _ _=>rfl) dn rfl rfl rfl rfl rfl (by first|rfl|simp) (by first|rfl|simp|(rw[List.map_append];rfl)) rfl ⟨VLe.refl _,VLe.refl _,trivial⟩ rfl rfl rfl ?_))|exact u64_in (by omega) (by omega)|exact i64_in (by omega) (by omega)|refine y3 ?_|refine y7 ?_ ?_|refine y4 ?_|(refine y9 ?_ ?_<;>intro h)|exact y5|fail)
  all_goals first
   |exact⟨.inl rfl,_,[],VLe.refl _,EndOK.by rfl ⟨rfl,trivial⟩ rfl rfl rfl rfl⟩
   |omega
   |exact u64_in (by omega) (by omega)
   |exact i64_in (by omega) (by omega)
 by_cases k2:k=2
 ·subst k2
  have hd: ¬dep>0:=by omega
  refine FC.walk (by kernel_rfl) Tryz.func82 rfl rfl ?_
  repeat'(first|exact y0|refine y1 ?_|refine y2 ?_ ?_|(refine y8 ?_ ?_<;>intro h<;>try(exact y6))|(refine wC ?_;first|refine wF 28 (cm c1 ?_)|refine wF 130 (cm c2 ?_)|refine wF 133 (cm c3 ?_)|(refine wF 25 ?_;refine CallG.pl nS [] [r1,r2] (fun _ _=>rfl) dn rfl rfl rfl rfl rfl (by first|rfl|simp) (by first|rfl|simp|(rw[List.map_append];rfl)) rfl ⟨VLe.refl _,VLe.refl _,trivial⟩ rfl rfl rfl ?_))|exact u64_in (by omega) (by omega)|exact i64_in (by omega) (by omega)|refine y3 ?_|refine y7 ?_ ?_|refine y4 ?_|(refine y9 ?_ ?_<;>intro h)|exact y5|fail)
  all_goals first
   |exact⟨.inl rfl,_,[],VLe.refl _,EndOK.by rfl ⟨rfl,trivial⟩ rfl rfl rfl rfl⟩
   |omega
   |exact u64_in (by omega) (by omega)
   |exact i64_in (by omega) (by omega)
 by_cases k4:k=4
 ·subst k4
  have hl2:loop=false:=by cases loop<;>simp_all
  subst hl2;refine FC.walk (by kernel_rfl) Tryz.func82 rfl rfl ?_
  repeat'(first|exact y0|refine y1 ?_|refine y2 ?_ ?_|(refine y8 ?_ ?_<;>intro h<;>try(exact y6))|(refine wC ?_;first|refine wF 28 (cm c1 ?_)|refine wF 130 (cm c2 ?_)|refine wF 133 (cm c3 ?_)|(refine wF 25 ?_;refine CallG.pl nS [] [r1,r2] (fun _ _=>rfl) dn rfl rfl rfl rfl rfl (by first|rfl|simp) (by first|rfl|simp|(rw[List.map_append];rfl)) rfl ⟨VLe.refl _,VLe.refl _,trivial⟩ rfl rfl rfl ?_))|exact u64_in (by omega) (by omega)|exact i64_in (by omega) (by omega)|refine y3 ?_|refine y7 ?_ ?_|refine y4 ?_|(refine y9 ?_ ?_<;>intro h)|exact y5|fail)
  all_goals first
   |exact⟨.inl rfl,_,[],VLe.refl _,EndOK.by rfl ⟨rfl,trivial⟩ rfl rfl rfl rfl⟩
   |omega
   |exact u64_in (by omega) (by omega)
   |exact i64_in (by omega) (by omega)
 by_cases k5:k=5
 ·subst k5
  have hl2:loop=false:=by cases loop<;>simp_all
  subst hl2;refine FC.walk (by kernel_rfl) Tryz.func82 rfl rfl ?_
  repeat'(first|exact y0|refine y1 ?_|refine y2 ?_ ?_|(refine y8 ?_ ?_<;>intro h<;>try(exact y6))|(refine wC ?_;first|refine wF 28 (cm c1 ?_)|refine wF 130 (cm c2 ?_)|refine wF 133 (cm c3 ?_)|(refine wF 25 ?_;refine CallG.pl nS [] [r1,r2] (fun _ _=>rfl) dn rfl rfl rfl rfl rfl (by first|rfl|simp) (by first|rfl|simp|(rw[List.map_append];rfl)) rfl ⟨VLe.refl _,VLe.refl _,trivial⟩ rfl rfl rfl ?_))|exact u64_in (by omega) (by omega)|exact i64_in (by omega) (by omega)|refine y3 ?_|refine y7 ?_ ?_|refine y4 ?_|(refine y9 ?_ ?_<;>intro h)|exact y5|fail)
  all_goals first
   |exact⟨.inl rfl,_,[],VLe.refl _,EndOK.by rfl ⟨rfl,trivial⟩ rfl rfl rfl rfl⟩
   |omega
   |exact u64_in (by omega) (by omega)
   |exact i64_in (by omega) (by omega)
 refine FC.walk (by kernel_rfl) Tryz.func82 rfl rfl ?_
 repeat'(first|exact y0|refine y1 ?_|refine y2 ?_ ?_|(refine y8 ?_ ?_<;>intro h<;>try(exact y6))|(refine wC ?_;first|refine wF 28 (cm c1 ?_)|refine wF 130 (cm c2 ?_)|refine wF 133 (cm c3 ?_)|(refine wF 25 ?_;refine CallG.pl nS [] [r1,r2] (fun _ _=>rfl) dn rfl rfl rfl rfl rfl (by first|rfl|simp) (by first|rfl|simp|(rw[List.map_append];rfl)) rfl ⟨VLe.refl _,VLe.refl _,trivial⟩ rfl rfl rfl ?_))|exact u64_in (by omega) (by omega)|exact i64_in (by omega) (by omega)|refine y3 ?_|refine y7 ?_ ?_|refine y4 ?_|(refine y9 ?_ ?_<;>intro h)|exact y5|fail)
 all_goals first
  |exact⟨.inl rfl,_,[],VLe.refl _,EndOK.by rfl ⟨rfl,trivial⟩ rfl rfl rfl rfl⟩
  |omega
  |exact u64_in (by omega) (by omega)
  |exact i64_in (by omega) (by omega)
theorem BlockE.up {l:List Int} {dep:Int} {args:Nat} {loop:Bool} {B C:Nat} (hbc:B≤C) (h:BlockE l dep args loop B):BlockE l dep args loop C:=fun i hi=>by
 obtain⟨r,i',o,h⟩:=h i hi;exact⟨r,i',o.le hbc,h⟩
theorem block_d (l:List Int) (hl:l.length≤20000000000000) (args:Nat) (ha:args≤100):∀ dep:Int,0≤dep→dep≤3→∀ loop,BlockE l dep args loop 50000000:=by
 have s0:∀ loop,BlockE l 0 args loop (1+3*(12100+3*3000)):=fun loop=>block_e l hl 0 args loop _ (by decide) (stmt_e l hl 0 (by decide) (by decide) args ha 3000 (by decide) (by decide) (fun h=>absurd h (by decide)) loop)
 have s1:∀ loop,BlockE l 1 args loop (1+3*(12100+3*(1+3*(12100+3*3000)))):=fun loop=>block_e l hl 1 args loop _ (by decide) (stmt_e l hl 1 (by decide) (by decide) args ha _ (by decide) (by decide) (fun _ loop=>s0 loop) loop)
 have s2:∀ loop,BlockE l 2 args loop (1+3*(12100+3*(1+3*(12100+3*(1+3*(12100+3*3000)))))):=fun loop=>block_e l hl 2 args loop _ (by decide) (stmt_e l hl 2 (by decide) (by decide) args ha _ (by decide) (by decide) (fun _ loop=>s1 loop) loop)
 have s3:∀ loop,BlockE l 3 args loop (1+3*(12100+3*(1+3*(12100+3*(1+3*(12100+3*(1+3*(12100+3*3000)))))))):=fun loop=>block_e l hl 3 args loop _ (by decide) (stmt_e l hl 3 (by decide) (by decide) args ha _ (by decide) (by decide) (fun _ loop=>s2 loop) loop)
 intro dep h1 h2 loop
 rcases (by omega:dep=0∨dep=1∨dep=2∨dep=3) with rfl|rfl|rfl|rfl
 ·exact (s0 loop).up (by decide)
 ·exact (s1 loop).up (by decide)
 ·exact (s2 loop).up (by decide)
 ·exact (s3 loop).up (by decide)
theorem method_e (l:List Int) (hl:l.length≤20000000000000) (s:By) (hs:s.length≤1000) (dep:Int) (h1:0≤dep) (h2:dep≤3) (i:Nat) (hi:i≤l.length):
 ∃ (r:List Nd) (i':Nat),OKr 300000000 r∧i'≤l.length∧FC Tryz.prog 31 [cP,sV s,nI dep] 1 (chL l i) (nodes r) 1 (chL l i'):=by
 obtain⟨k,i1,hk,hi1,c1⟩:=next_c l hl 3 (by decide) (by decide) i hi;obtain⟨m,i2,hm2,hi2,c2⟩:=next_c l hl 2 (by decide) (by decide) i1 hi1;obtain⟨q,i3,hq,hi3,c3⟩:=next_c l hl 3 (by decide) (by decide) i2 hi2;obtain⟨rb,i4,ob,hi4,c4⟩:=block_d l hl k (by omega) dep h1 h2 false i3 hi3;obtain⟨r1,o1,d1⟩:=name_e s hs;obtain⟨r2,o2,d2⟩:=int_e k (by omega);obtain⟨r3,o3,d3⟩:=int_e m (by omega);obtain⟨r4,o4,d4⟩:=int_e q (by omega);obtain⟨r,o,dn⟩:=node_e 14 [r1,r2,r3,r4,rb] (B:=50000000) 300000000 (by simp[o1.le,o2.le,o3.le,o4.le,ob]) (by simp) (by simp) (by simp);unfold kidF at dn;refine⟨r,i4,o,hi4,?_⟩;refine FC.walk (by kernel_rfl) Tryz.func31 rfl rfl ?_
 repeat'(first|exact y0|refine y1 ?_|refine y2 ?_ ?_|(refine y8 ?_ ?_<;>intro h<;>try(exact y6))|(refine wC ?_;first|refine wF 28 (cm c1 ?_)|refine wF 28 (cm c2 ?_)|refine wF 28 (cm c3 ?_)|refine wF 26 (pu d1 ?_)|refine wF 27 (pu d2 ?_)|refine wF 27 (pu d3 ?_)|refine wF 27 (pu d4 ?_)|refine wF 50 (cm c4 ?_)|(refine wF 25 ?_;refine CallG.pl nS [] [r1,r2,r3,r4,rb] (fun _ _=>rfl) dn rfl rfl rfl rfl rfl (by first|rfl|simp) (by first|rfl|simp|(rw[List.map_append];rfl)) rfl ⟨VLe.refl _,VLe.refl _,trivial⟩ rfl rfl rfl ?_))|exact u64_in (by omega) (by omega)|exact i64_in (by omega) (by omega)|refine y3 ?_|refine y7 ?_ ?_|refine y4 ?_|(refine y9 ?_ ?_<;>intro h)|exact y5|fail)
 all_goals first
  |exact⟨.inl rfl,_,[],VLe.refl _,EndOK.by rfl ⟨rfl,trivial⟩ rfl rfl rfl rfl⟩
  |omega
  |exact u64_in (by omega) (by omega)
  |exact i64_in (by omega) (by omega)
set_option maxRecDepth 100000
set_option maxHeartbeats 4000000
end Go.Proofs.YtbokilgdefkmiaaGreatDoor
namespace Go.Proofs.YtbokilgdefkmiaaGreatDoor
namespace Ab
open Go
theorem all2_set {α β:Type} {r:α→β→Prop}:∀ {l:List α} {xs:List β} {o:Nat} {v:α},All2 r l xs→(∀ x,xs[o]? =some x→r v x)→All2 r (l.set o v) xs
 |[],[],_,_,_,_=>trivial
 |[],_::_,_,_,h,_=>h.elim
 |_::_,[],_,_,h,_=>h.elim
 |a::l,x::xs,0,v,h,hv=>⟨hv x rfl,h.2⟩
 |a::l,x::xs,o+1,v,h,hv=>⟨h.1,all2_set h.2 fun y hy=>hv y (by simpa using hy)⟩
theorem all2_at {α β:Type} {r:α→β→Prop}:∀ {l:List α} {xs:List β} {o:Nat} {s:α} {x:β},All2 r l xs→l[o]? =some s→xs[o]? =some x→r s x
 |[],_,_,_,_,_,h,_=>by simp at h
 |_::_,[],_,_,_,h,_,_=>h.elim
 |a::l,x::xs,0,s,y,h,h1,h2=>by
  simp only[List.getElem?_cons_zero,Option.some.injEq] at h1 h2;subst h1;subst h2;exact h.1
 |a::l,x::xs,o+1,s,y,h,h1,h2=>all2_at h.2 (by simpa using h1) (by simpa using h2)
theorem flat_get {α:Type} (g:α→List S) (w:Nat) (d:α) (hw:∀ a,(g a).length=w):∀ {l:List α} {k j:Nat} {x:S},k<l.length→(g (l.getD k d))[j]? =some x→(l.flatMap g)[k*w+j]? =some x
 |[],k,j,x,hk,_=>by simp at hk
 |a::l,0,j,x,hk,hx=>by
  have hj:j<(g a).length:=by
   rcases Nat.lt_or_ge j (g a).length with h|h
   ·exact h
   ·exfalso;simp only[List.getD_cons_zero] at hx;rw[List.getElem?_eq_none h] at hx;cases hx
  rw[Nat.zero_mul,Nat.zero_add,List.flatMap_cons,List.getElem?_append_left hj];exact hx
 |a::l,k+1,j,x,hk,hx=>by
  have:=flat_get g w d hw (l:=l) (k:=k) (j:=j) (x:=x) (by simpa using hk) hx;rw[List.flatMap_cons,List.getElem?_append_right (by rw[hw,Nat.succ_mul];omega),hw];rw[show (k+1)*w+j-w=k*w+j by rw[Nat.succ_mul];omega];exact this
theorem SC.froz {P:Program} {f:FuncId} {args:List V} {v:V} {n':Nat} {L':Hp} (h:SC P f args 0 [] v n' L') (get:Nat→List S) (sz:Nat) {i N:Nat} {bl:Bl} (hl:lk L' i=some bl) (hro:bl.ro=false) (hk:bl.kind=none)
 (hg:∀ k,k<N→(get k).length=sz) (hc:∀ k j x,k<N→(get k)[j]? =some x→bl.cells[k*sz+j]? =some x∧pureS x=true)
 {v':V} (hv:∀ (φ ψ:Ph) (x:Value),(∀ u y,sliceOf u=some (i,N)→Vr φ u y→Vr ψ (.s (.frz get sz N)) y)→Vr φ v x→Vr ψ v' x):SC P f args 0 [] v' 0 []:=by
 intro φ xs w hx hgd hf;refine (h φ xs w hx hgd hf).mono ?_;rintro e w' ⟨φ',x,rfl,hvx,hg',hn,st,_,_⟩;obtain⟨φ2,e1,hle,hz,hg2,hsl⟩:=fz_core hg' get sz (i:=i) (N:=N) hl hro hk hg hc;refine⟨⟨φ.f,φ2.z⟩,x,rfl,hv φ' ⟨φ.f,φ2.z⟩ x (fun u y hu hy=>?_) hvx,⟨fun j b hj=>(by cases hj),fun j k b b' _ _ hj=>(by cases hj),fun b l hb=>⟨(hg2.fz b l hb).1,fun hw=>?_⟩,hg2.gz⟩,hf,⟨st.os,st.tape,st.output,st.size,st.keep,fun j b _ hj=>(by cases hj),fun b l hb=>hle.z b l (st.zle b l hb),fun b l hb=>?_⟩,Nat.le_refl _,fun _ _=>rfl⟩
 ·exact hsl u y hu hy
 ·obtain⟨j,b',c,hj,_⟩:=hw;cases hj
 ·rcases hz b l hb with q|⟨j,b',c,hj,hc',rfl,hr⟩
  ·exact st.zfr b l q
  ·rcases Nat.lt_or_ge c.1 w.heap.size with hlt|hge
   ·obtain⟨k,b2,c2,hk2,_⟩:=st.fresh j b' c hj hc' hlt
    cases hk2
   ·exact .inr (.inl hge)
section
variable {P:Program} {b:Nat} {env:List V} {n:Nat} {L:Hp} {R:Post} {c:Code}
theorem Ex.fzR {α:Type} (t:Nat) (g:α→List S) (w:Nat) (d:α) (l:List α) {i gn ty:Nat} (ht:env.getD t .undef=.s (.row i gn l.length)) (hl:lk L i=opB ty gn w (l.flatMap g)) (hw:∀ a,(g a).length=w) (hp:∀ (a:α) (j:Nat) (x:S),(g a)[j]? =some x→pureS x=true) (hw0:0<w)
 {env':List V} (he:env.set t (.s (.frz (fun k=>g (l.getD k d)) w l.length))=env') {L':Hp} (hL:put L i none=L') (k:Ex P b c env' n L' R):Ex P b c env n L R:=by
 have sub:Sub L' L:=by
  intro j bj hj;rw[←hL,lk_put] at hj;split at hj
  ·cases hj
  ·exact hj
 cases l with
 |nil=>exact Ex.set t _ (by rw[ht];exact VLe.s SLe.row0) he (Ex.sub sub k)
 |cons a l=>
  have hne:(a::l).flatMap g≠[]:=by
   rw[List.flatMap_cons];have:=hw a
   cases hga:g a with
   |nil=>rw[hga] at this;simp at this;omega
   |cons x xs=>simp
  obtain⟨x,xs,hx⟩:=List.exists_cons_of_ne_nil hne;rw[hx] at hl;have hl:lk L i=some {cells:=x::xs,ty:=ty,more:=true,sym:=true,flat:=true,gh:=some (gn,w)}:=hl;refine Ex.fz t _ w (i:=i) (N:=(a::l).length) (by rw[ht];rfl) hl rfl rfl (fun k _=>hw _) (fun k j y hk hy=>⟨?_,hp _ _ _ hy⟩) he hL k;show (x::xs)[k*w+j]? =_;rw[←hx];exact flat_get g w d hw hk hy
end
inductive T (α:Type) where
 |nil
 |node (v:Option α) (a b c d:T α)
def T.get {α:Type}:T α→Nat→Option α
 | .nil,_=>none
 | .node v a b c d,i=>
   match i with
   |0=>v
   |j+1=>
    match Nat.beq (Nat.land j 1) 0 with
    |true=>(match Nat.beq (Nat.land j 2) 0 with|true=>a.get (Nat.div j 4)|false=>c.get (Nat.div j 4))
    |false=>(match Nat.beq (Nat.land j 2) 0 with|true=>b.get (Nat.div j 4)|false=>d.get (Nat.div j 4))
def T.one {α β:Type} (x:Option α):Nat→Nat→(T α→β)→β
 |0,_,k=>k .nil
 |f+1,i,k=>
  match i with
  |0=>k (.node x .nil .nil .nil .nil)
  |j+1=>
   match Nat.beq (Nat.land j 1) 0 with
   |true=>(match Nat.beq (Nat.land j 2) 0 with|true=>T.one x f (Nat.div j 4) fun t=>k (.node none t .nil .nil .nil)|false=>T.one x f (Nat.div j 4) fun t=>k (.node none .nil .nil t .nil))
   |false=>(match Nat.beq (Nat.land j 2) 0 with|true=>T.one x f (Nat.div j 4) fun t=>k (.node none .nil t .nil .nil)|false=>T.one x f (Nat.div j 4) fun t=>k (.node none .nil .nil .nil t))
def T.putK {α β:Type} (x:Option α):T α→Nat→(T α→β)→β
 | .nil,i,k=>T.one x (Nat.succ i) i k
 | .node v a b c d,i,k=>
   match i with
   |0=>k (.node x a b c d)
   |j+1=>
    match Nat.beq (Nat.land j 1) 0 with
    |true=>(match Nat.beq (Nat.land j 2) 0 with|true=>T.putK x a (Nat.div j 4) fun t=>k (.node v t b c d)|false=>T.putK x c (Nat.div j 4) fun t=>k (.node v a b t d))
    |false=>(match Nat.beq (Nat.land j 2) 0 with|true=>T.putK x b (Nat.div j 4) fun t=>k (.node v a t c d)|false=>T.putK x d (Nat.div j 4) fun t=>k (.node v a b c t))
def T.put {α:Type} (t:T α) (i:Nat) (x:Option α):T α:=T.putK x t i id
theorem land_one (i:Nat):Nat.beq (Nat.land i 1) 0=decide (i%2=0):=by
 have:Nat.land i 1=i%2:=Nat.and_one_is_mod i;rw[this]
 rcases Nat.mod_two_eq_zero_or_one i with h|h<;>rw[h]<;>rfl
theorem beq_dec (i j:Nat):Nat.beq i j=decide (i=j):=by
 by_cases h:i=j
 ·subst h;simp
 ·simp[h,beq_no h]
theorem land_two (i:Nat):Nat.beq (Nat.land i 2) 0=decide (i/2%2=0):=by
 have h:Nat.land i 2=2*(i/2%2):=by
  show i&&&2=_
  have e:i&&&2=2*((i/2)&&&1):=by
   apply Nat.eq_of_testBit_eq;intro k;rw[Nat.testBit_and]
   cases k with
   |zero=>simp
   |succ k=>
    rw[show (2:Nat)*((i/2)&&&1)=2^1*((i/2)&&&1) by simp,Nat.testBit_two_pow_mul];simp only[Nat.testBit_and,Nat.testBit_div_two,ge_iff_le,Nat.le_add_left,decide_true,Bool.true_and,Nat.add_sub_cancel];congr 1;rw[show (2:Nat)=2^1 by rfl,Nat.testBit_two_pow]
    cases k with
    |zero=>simp
    |succ k=>simp[Nat.testBit_succ]
  rw[e,Nat.and_one_is_mod]
 rw[h,beq_dec];congr 1;apply propext;omega
theorem T.get_nil {α:Type} (j:Nat):(T.nil:T α).get j=none:=by cases j<;>rfl
def T.sel {α:Type} (j:Nat) (a b c d:α):α:=if j%2=0 then (if j/2%2=0 then a else c) else (if j/2%2=0 then b else d)
theorem T.get_node {α:Type} (v:Option α) (a b c d:T α) (j:Nat):(T.node v a b c d).get j=if j=0 then v else (T.sel (j-1) a b c d).get ((j-1)/4):=by
 cases j with
 |zero=>rfl
 |succ j=>
  show (match Nat.beq (Nat.land j 1) 0 with
   |true=>(match Nat.beq (Nat.land j 2) 0 with|true=>a.get (Nat.div j 4)|false=>c.get (Nat.div j 4))
   |false=>(match Nat.beq (Nat.land j 2) 0 with|true=>b.get (Nat.div j 4)|false=>d.get (Nat.div j 4)))=_
  rw[land_one,land_two];have e:Nat.div j 4=j/4:=rfl;rw[e];simp only[Nat.add_one_ne_zero,if_false,Nat.add_sub_cancel,T.sel]
  by_cases h1:j%2=0<;>by_cases h2:j/2%2=0<;>simp[h1,h2]
theorem T.one_eq {α β:Type} (x:Option α):∀ (f i:Nat) (k:T α→β),T.one x f i k=k (T.one x f i id)
 |0,_,k=>rfl
 |f+1,0,k=>rfl
 |f+1,j+1,k=>by
  simp only[T.one]
  split<;>split
  ·exact (T.one_eq x f _ (fun t=>k (T.node none t .nil .nil .nil))).trans (congrArg k (T.one_eq x f _ (fun t=>id (T.node none t .nil .nil .nil))).symm)
  ·exact (T.one_eq x f _ (fun t=>k (T.node none .nil .nil t .nil))).trans (congrArg k (T.one_eq x f _ (fun t=>id (T.node none .nil .nil t .nil))).symm)
  ·exact (T.one_eq x f _ (fun t=>k (T.node none .nil t .nil .nil))).trans (congrArg k (T.one_eq x f _ (fun t=>id (T.node none .nil t .nil .nil))).symm)
  ·exact (T.one_eq x f _ (fun t=>k (T.node none .nil .nil .nil t))).trans (congrArg k (T.one_eq x f _ (fun t=>id (T.node none .nil .nil .nil t))).symm)
theorem T.putK_eq {α β:Type} (x:Option α):∀ (t:T α) (i:Nat) (k:T α→β),T.putK x t i k=k (t.put i x)
 | .nil,i,k=>T.one_eq x _ i k
 | .node v a b c d,0,k=>rfl
 | .node v a b c d,j+1,k=>by
   simp only[T.put,T.putK]
   split<;>split
   ·exact (T.putK_eq x a _ (fun t=>k (T.node v t b c d))).trans (congrArg k (T.putK_eq x a _ (fun t=>id (T.node v t b c d))).symm)
   ·exact (T.putK_eq x c _ (fun t=>k (T.node v a b t d))).trans (congrArg k (T.putK_eq x c _ (fun t=>id (T.node v a b t d))).symm)
   ·exact (T.putK_eq x b _ (fun t=>k (T.node v a t c d))).trans (congrArg k (T.putK_eq x b _ (fun t=>id (T.node v a t c d))).symm)
   ·exact (T.putK_eq x d _ (fun t=>k (T.node v a b c t))).trans (congrArg k (T.putK_eq x d _ (fun t=>id (T.node v a b c t))).symm)
theorem T.get_one {α:Type} (x:Option α):∀ (f i j:Nat),i<f→(T.one x f i id).get j=if i=j then x else none
 |0,i,_,h=>by omega
 |f+1,0,j,h=>by
  show (T.node x .nil .nil .nil .nil).get j=_;rw[T.get_node]
  cases j with
  |zero=>rfl
  |succ j=>simp only[Nat.add_one_ne_zero,if_false,T.sel];(repeat' split)<;>simp_all[T.get_nil]
 |f+1,i+1,j,h=>by
  simp only[T.one];rw[land_one,land_two];have e:Nat.div i 4=i/4:=rfl;rw[e];have ih:=T.get_one x f (i/4) ((j-1)/4) (by omega)
  by_cases h1:i%2=0<;>by_cases h2:i/2%2=0<;>simp only[h1,h2,decide_true,decide_false]<;>rw[T.one_eq]<;>simp only[id,T.get_node]<;>cases j with
  |zero=>simp
  |succ j=>
   simp only[Nat.add_one_ne_zero,if_false,Nat.add_sub_cancel,T.sel] at ih ⊢
   by_cases g1:j%2=0<;>by_cases g2:j/2%2=0<;>simp only[g1,g2,if_true,if_false,T.get_nil]<;>first
    |(rw[if_neg (by omega)];done)
    |(rw[show (T.one x f (i/4) fun a=>a)=T.one x f (i/4) id from rfl,ih]
      have:i/4=j/4↔i+1=j+1:=by omega
      simp only[this])
    |(rw[ih]
      have:i/4=j/4↔i+1=j+1:=by omega
      simp only[this])
theorem T.get_put {α:Type}:∀ (t:T α) (i:Nat) (x:Option α) (j:Nat),(t.put i x).get j=if i=j then x else t.get j
 | .nil,i,x,j=>by
   show (T.one x (Nat.succ i) i id).get j=_;rw[T.get_one x _ _ _ (Nat.lt_succ_self _),T.get_nil]
 | .node v a b c d,0,x,j=>by
   show (T.node x a b c d).get j=_;rw[T.get_node,T.get_node]
   cases j with
   |zero=>rfl
   |succ j=>simp
 | .node v a b c d,i+1,x,j=>by
   simp only[T.put,T.putK];rw[land_one,land_two];have e:Nat.div i 4=i/4:=rfl;rw[e];have iha:=T.get_put a (i/4) x ((j-1)/4);have ihb:=T.get_put b (i/4) x ((j-1)/4);have ihc:=T.get_put c (i/4) x ((j-1)/4);have ihd:=T.get_put d (i/4) x ((j-1)/4)
   by_cases h1:i%2=0<;>by_cases h2:i/2%2=0<;>simp only[h1,h2,decide_true,decide_false]<;>rw[T.putK_eq]<;>simp only[id,T.get_node]<;>cases j with
   |zero=>simp
   |succ j=>
    simp only[Nat.add_one_ne_zero,if_false,Nat.add_sub_cancel,T.sel] at iha ihb ihc ihd ⊢
    by_cases g1:j%2=0<;>by_cases g2:j/2%2=0<;>simp only[g1,g2,if_true,if_false]<;>first
     |(rw[if_neg (by omega)];done)
     |(first|rw[iha]|rw[ihb]|rw[ihc]|rw[ihd]
       have:i/4=j/4↔i+1=j+1:=by omega
       simp only[this])
def T.puts {α:Type}:T α→List (Nat×Option α)→T α
 |t,[]=>t
 |t,(i,x)::r=>T.puts (t.put i x) r
def frcN {β:Type} (n:Nat) (k:Nat→β):β:=match n with|0=>k 0|m+1=>k (Nat.succ m)
theorem frcN_eq {β:Type} (n:Nat) (k:Nat→β):frcN n k=k n:=by cases n<;>rfl
def frcI {β:Type} (z:Int) (k:Int→β):β:=match z with| .ofNat n=>frcN n fun n=>k (.ofNat n)| .negSucc n=>frcN n fun n=>k (.negSucc n)
theorem frcI_eq {β:Type} (z:Int) (k:Int→β):frcI z k=k z:=by cases z<;>simp only[frcI,frcN_eq]
def frcA {β:Type} (a:Option (Nat×Nat)) (k:Option (Nat×Nat)→β):β:=match a with|none=>k none|some (i,o)=>frcN i fun i=>frcN o fun o=>k (some (i,o))
theorem frcA_eq {β:Type} (a:Option (Nat×Nat)) (k:Option (Nat×Nat)→β):frcA a k=k a:=by rcases a with _|⟨i,o⟩<;>simp only[frcA,frcN_eq]
def frcC {β:Type} (a:Option Nat) (k:Option Nat→β):β:=match a with|none=>k none|some i=>frcN i fun i=>k (some i)
theorem frcC_eq {β:Type} (a:Option Nat) (k:Option Nat→β):frcC a k=k a:=by cases a<;>simp only[frcC,frcN_eq]
def frcTm {β:Type} (t:Tm) (k:Tm→β):β:=
 match t with
 | .v i=>frcN i fun i=>k (.v i)
 | .c z=>frcN z fun z=>k (.c z)
 | .bin o kd a b=>frcTm a fun a=>frcTm b fun b=>match o with| .add=>k (.bin .add kd a b)|o=>k (.bin o kd a b)
theorem frcTm_eq {β:Type}:∀ (t:Tm) (k:Tm→β),frcTm t k=k t
 | .v i,k=>by simp only[frcTm,frcN_eq]
 | .c z,k=>by simp only[frcTm,frcN_eq]
 | .bin o kd a b,k=>by
   simp only[frcTm,frcTm_eq a,frcTm_eq b]
   cases o<;>rfl
def frcKn {β:Type} (K:Kn) (k:Kn→β):β:=match K with|⟨lo,hi,m⟩=>frcN lo fun lo=>frcN hi fun hi=>k ⟨lo,hi,m⟩
theorem frcKn_eq {β:Type} (K:Kn) (k:Kn→β):frcKn K k=k K:=by cases K;simp only[frcKn,frcN_eq]
def frcS {β:Type} (x:S) (k:S→β):β:=
 match x with
 | .int kd z=>frcI z fun z=>k (.int kd z)
 | .bool b=>match b with|true=>k (.bool true)|false=>k (.bool false)
 | .str l=>frc l [] fun l=>k (.str l)
 | .ptr a=>frcA a fun a=>k (.ptr a)
 | .slc a n c=>frcA a fun a=>frcN n fun n=>frcC c fun c=>k (.slc a n c)
 | .sla i g n=>frcN i fun i=>frcN g fun g=>frcN n fun n=>k (.sla i g n)
 | .itr i m=>frcN i fun i=>frcN m fun m=>k (.itr i m)
 | .clo f ps=>frc ps [] fun ps=>k (.clo f ps)
 | .opq kd t K=>frcTm t fun t=>frcKn K fun K=>k (.opq kd t K)
 |x=>k x
theorem frcS_eq {β:Type} (x:S) (k:S→β):frcS x k=k x:=by
 cases x<;>simp only[frcS,frcI_eq,frc_eq,frcA_eq,frcN_eq,frcC_eq,frcTm_eq,frcKn_eq]
 split<;>rfl
def frcW {β:Type} (v:V) (k:V→β):β:=
 match v with
 | .s x=>frcS x fun x=>k (.s x)
 | .agg l=>frc l [] fun l=>k (.agg l)
 | .tup l=>frc l [] fun l=>k (.tup l)
 |v=>k v
theorem frcW_eq {β:Type} (v:V) (k:V→β):frcW v k=k v:=by cases v<;>simp only[frcW,frcS_eq,frc_eq]
def evT (env:T V):Operand→V
 | .tmp t=>match env.get t with|some v=>v|none=> .undef
 | .const v=>ofConst v
 | .func f=> .s (.fn f)
 | .global g=> .s (.gp g 0)
end Ab
end Go.Proofs.YtbokilgdefkmiaaGreatDoor
