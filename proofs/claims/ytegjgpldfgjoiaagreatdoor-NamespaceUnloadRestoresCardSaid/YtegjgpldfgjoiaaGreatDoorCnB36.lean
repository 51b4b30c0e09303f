import Derived.Test.YtegjgpldfgjoiaaGreatDoorCnB35
set_option linter.unusedSimpArgs false
set_option linter.unusedVariables false
namespace Go.Proofs.YtegjgpldfgjoiaaGreatDoor
open Go Ab
set_option maxRecDepth 100000
set_option maxHeartbeats 4000000
theorem nV (l:List Int) (hl:l.length<=20000000000000) (dep:Int) (h1: -1<=dep) (h2:dep<=3) (args:Nat) (ha:args<=100) (B:Nat) (hB1:3000<=B) (hB2:B<=10000000000) (hB:0<dep->∀ loop,BlockE l (dep-1) args loop B) (loop:Bool):
 BJ l dep args loop (12100+3*B):=by
 intro i hi
 have eE:∀ d:Int,-10<=d->d<=3->dP l d args 3000:=fun d p q=>FF l hl args ha d p q
 obtain⟨k,i1,hk,hi1,c1⟩:=am l hl 14 (by decide) (by decide) i hi;by_cases hc:k=1/\0<dep
 ·obtain⟨rfl,hd⟩:=hc
  obtain⟨q,i2,hq,hi2,c2⟩:=am l hl 2 (by decide) (by decide) i1 hi1;obtain⟨r1,i3,o1,hi3,c3⟩:=eE 1 (by decide) (by decide) i2 hi2;obtain⟨r2,i4,o2,hi4,c4⟩:=hB hd loop i3 hi3;by_cases hq0:q=0
  ·subst hq0
   obtain⟨r,o,dn⟩:=au 31 [r1,r2] (B:=B) (12100+3*B) (by simp[o1.le hB1,o2]) (by first|(simp;done)|(simp;omega)) (by simp) (by first|(simp;done)|(simp;omega));unfold bg at dn;refine⟨r,i4,o,hi4,?_⟩;refine FC.walk (by kernel_rfl) Tryz.func168 rfl rfl ?_
   repeat'(first|exact y0|refine y1 ?_|refine y2 ?_ ?_|(refine y8 ?_ ?_<;>intro h<;>try(exact y6))|(refine wC ?_;first|refine wF 18 (cm c1 ?_)|refine wF 18 (cm c2 ?_)|refine wF 218 (cm c3 ?_)|refine wF 104 (cm c4 ?_)|(refine wF 55 ?_;refine CallG.pl nS [] [r1,r2] (fun _ _=>rfl) dn rfl rfl rfl rfl rfl (by first|rfl|simp) (by first|rfl|simp|(rw[List.map_append];rfl)) rfl ⟨VLe.refl _,VLe.refl _,trivial⟩ rfl rfl rfl ?_))|exact ac (by omega) (by omega)|exact aa (by omega) (by omega)|refine y3 ?_|refine y7 ?_ ?_|refine y4 ?_|(refine y9 ?_ ?_<;>intro h)|exact y5|fail)
   all_goals first
    |exact⟨.inl rfl,_,[],VLe.refl _,EndOK.by rfl ⟨rfl,trivial⟩ rfl rfl rfl rfl⟩
    |omega
    |exact ac (by omega) (by omega)
    |exact aa (by omega) (by omega)
  ·obtain⟨r3,i5,o3,hi5,c5⟩:=hB hd loop i4 hi4
   obtain⟨r,o,dn⟩:=au 31 [r1,r2,r3] (B:=B) (12100+3*B) (by simp[o1.le hB1,o2,o3]) (by first|(simp;done)|(simp;omega)) (by simp) (by first|(simp;done)|(simp;omega));unfold bg at dn;refine⟨r,i5,o,hi5,?_⟩;refine FC.walk (by kernel_rfl) Tryz.func168 rfl rfl ?_
   repeat'(first|exact y0|refine y1 ?_|refine y2 ?_ ?_|(refine y8 ?_ ?_<;>intro h<;>try(exact y6))|(refine wC ?_;first|refine wF 18 (cm c1 ?_)|refine wF 18 (cm c2 ?_)|refine wF 218 (cm c3 ?_)|refine wF 104 (cm c4 ?_)|refine wF 104 (cm c5 ?_)|(refine wF 55 ?_;refine CallG.pl nS [] [r1,r2,r3] (fun _ _=>rfl) dn rfl rfl rfl rfl rfl (by first|rfl|simp) (by first|rfl|simp|(rw[List.map_append];rfl)) rfl ⟨VLe.refl _,VLe.refl _,trivial⟩ rfl rfl rfl ?_))|exact ac (by omega) (by omega)|exact aa (by omega) (by omega)|refine y3 ?_|refine y7 ?_ ?_|refine y4 ?_|(refine y9 ?_ ?_<;>intro h)|exact y5|fail)
   all_goals first
    |exact⟨.inl rfl,_,[],VLe.refl _,EndOK.by rfl ⟨rfl,trivial⟩ rfl rfl rfl rfl⟩
    |omega
    |exact ac (by omega) (by omega)
    |exact aa (by omega) (by omega)
 by_cases hc:k=2/\0<dep
 ·obtain⟨rfl,hd⟩:=hc
  obtain⟨r1,i3,o1,hi3,c3⟩:=eE 1 (by decide) (by decide) i1 hi1;obtain⟨r2,i4,o2,hi4,c4⟩:=hB hd true i3 hi3;obtain⟨r,o,dn⟩:=au 32 [r1,r2] (B:=B) (12100+3*B) (by simp[o1.le hB1,o2]) (by first|(simp;done)|(simp;omega)) (by simp) (by first|(simp;done)|(simp;omega));unfold bg at dn;refine⟨r,i4,o,hi4,?_⟩;refine FC.walk (by kernel_rfl) Tryz.func168 rfl rfl ?_
  repeat'(first|exact y0|refine y1 ?_|refine y2 ?_ ?_|(refine y8 ?_ ?_<;>intro h<;>try(exact y6))|(refine wC ?_;first|refine wF 18 (cm c1 ?_)|refine wF 218 (cm c3 ?_)|refine wF 104 (cm c4 ?_)|(refine wF 55 ?_;refine CallG.pl nS [] [r1,r2] (fun _ _=>rfl) dn rfl rfl rfl rfl rfl (by first|rfl|simp) (by first|rfl|simp|(rw[List.map_append];rfl)) rfl ⟨VLe.refl _,VLe.refl _,trivial⟩ rfl rfl rfl ?_))|exact ac (by omega) (by omega)|exact aa (by omega) (by omega)|refine y3 ?_|refine y7 ?_ ?_|refine y4 ?_|(refine y9 ?_ ?_<;>intro h)|exact y5|fail)
  all_goals first
   |exact⟨.inl rfl,_,[],VLe.refl _,EndOK.by rfl ⟨rfl,trivial⟩ rfl rfl rfl rfl⟩
   |omega
   |exact ac (by omega) (by omega)
   |exact aa (by omega) (by omega)
 by_cases hc:k=3
 ·subst hc
  obtain⟨r1,i3,o1,hi3,c3⟩:=eE dep (by omega) h2 i1 hi1;obtain⟨r,o,dn⟩:=au 33 [r1] (B:=B) (12100+3*B) (by simp[o1.le hB1]) (by first|(simp;done)|(simp;omega)) (by simp) (by first|(simp;done)|(simp;omega));unfold bg at dn;refine⟨r,i3,o,hi3,?_⟩;refine FC.walk (by kernel_rfl) Tryz.func168 rfl rfl ?_
  repeat'(first|exact y0|refine y1 ?_|refine y2 ?_ ?_|(refine y8 ?_ ?_<;>intro h<;>try(exact y6))|(refine wC ?_;first|refine wF 18 (cm c1 ?_)|refine wF 218 (cm c3 ?_)|(refine wF 55 ?_;refine CallG.pl nS [] [r1] (fun _ _=>rfl) dn rfl rfl rfl rfl rfl (by first|rfl|simp) (by first|rfl|simp|(rw[List.map_append];rfl)) rfl ⟨VLe.refl _,VLe.refl _,trivial⟩ rfl rfl rfl ?_))|exact ac (by omega) (by omega)|exact aa (by omega) (by omega)|refine y3 ?_|refine y7 ?_ ?_|refine y4 ?_|(refine y9 ?_ ?_<;>intro h)|exact y5|fail)
  all_goals first
   |exact⟨.inl rfl,_,[],VLe.refl _,EndOK.by rfl ⟨rfl,trivial⟩ rfl rfl rfl rfl⟩
   |omega
   |exact ac (by omega) (by omega)
   |exact aa (by omega) (by omega)
 by_cases hc:k=4/\loop=true
 ·obtain⟨rfl,rfl⟩:=hc
  obtain⟨r,o,dn⟩:=au 34 [] (B:=0) 1 (fun r hr=>by cases hr) (by simp) (by simp) (by simp);unfold bg at dn;refine⟨r,i1,o.le (by omega),hi1,?_⟩;refine FC.walk (by kernel_rfl) Tryz.func168 rfl rfl ?_
  repeat'(first|exact y0|refine y1 ?_|refine y2 ?_ ?_|(refine y8 ?_ ?_<;>intro h<;>try(exact y6))|(refine wC ?_;first|refine wF 18 (cm c1 ?_)|(refine wF 55 ?_;refine CallG.we dn rfl ⟨VLe.refl _,VLe.s SLe.nil,trivial⟩ rfl rfl rfl ?_))|exact ac (by omega) (by omega)|exact aa (by omega) (by omega)|refine y3 ?_|refine y7 ?_ ?_|refine y4 ?_|(refine y9 ?_ ?_<;>intro h)|exact y5|fail)
  all_goals first
   |exact⟨.inl rfl,_,[],VLe.refl _,EndOK.by rfl ⟨rfl,trivial⟩ rfl rfl rfl rfl⟩
   |omega
   |exact ac (by omega) (by omega)
   |exact aa (by omega) (by omega)
 by_cases hc:k=5/\loop=true
 ·obtain⟨rfl,rfl⟩:=hc
  obtain⟨r,o,dn⟩:=au 35 [] (B:=0) 1 (fun r hr=>by cases hr) (by simp) (by simp) (by simp);unfold bg at dn;refine⟨r,i1,o.le (by omega),hi1,?_⟩;refine FC.walk (by kernel_rfl) Tryz.func168 rfl rfl ?_
  repeat'(first|exact y0|refine y1 ?_|refine y2 ?_ ?_|(refine y8 ?_ ?_<;>intro h<;>try(exact y6))|(refine wC ?_;first|refine wF 18 (cm c1 ?_)|(refine wF 55 ?_;refine CallG.we dn rfl ⟨VLe.refl _,VLe.s SLe.nil,trivial⟩ rfl rfl rfl ?_))|exact ac (by omega) (by omega)|exact aa (by omega) (by omega)|refine y3 ?_|refine y7 ?_ ?_|refine y4 ?_|(refine y9 ?_ ?_<;>intro h)|exact y5|fail)
  all_goals first
   |exact⟨.inl rfl,_,[],VLe.refl _,EndOK.by rfl ⟨rfl,trivial⟩ rfl rfl rfl rfl⟩
   |omega
   |exact ac (by omega) (by omega)
   |exact aa (by omega) (by omega)
 by_cases hc:k=6
 ·subst hc
  obtain⟨r1,o1,d1⟩:=aZ [77,84,88] (by decide);obtain⟨r,o,dn⟩:=au 36 [r1] (B:=B) (12100+3*B) (by simp[o1.le (show 1<=B by omega)]) (by first|(simp;done)|(simp;omega)) (by simp) (by first|(simp;done)|(simp;omega));unfold bg at dn;refine⟨r,i1,o,hi1,?_⟩;refine FC.walk (by kernel_rfl) Tryz.func168 rfl rfl ?_
  repeat'(first|exact y0|refine y1 ?_|refine y2 ?_ ?_|(refine y8 ?_ ?_<;>intro h<;>try(exact y6))|(refine wC ?_;first|refine wF 18 (cm c1 ?_)|refine wF 56 (pu d1 ?_)|(refine wF 55 ?_;refine CallG.pl nS [] [r1] (fun _ _=>rfl) dn rfl rfl rfl rfl rfl (by first|rfl|simp) (by first|rfl|simp|(rw[List.map_append];rfl)) rfl ⟨VLe.refl _,VLe.refl _,trivial⟩ rfl rfl rfl ?_))|exact ac (by omega) (by omega)|exact aa (by omega) (by omega)|refine y3 ?_|refine y7 ?_ ?_|refine y4 ?_|(refine y9 ?_ ?_<;>intro h)|exact y5|fail)
  all_goals first
   |exact⟨.inl rfl,_,[],VLe.refl _,EndOK.by rfl ⟨rfl,trivial⟩ rfl rfl rfl rfl⟩
   |omega
   |exact ac (by omega) (by omega)
   |exact aa (by omega) (by omega)
 by_cases hc:k=7
 ·subst hc
  obtain⟨q,i2,hq,hi2,c2⟩:=am l hl 2 (by decide) (by decide) i1 hi1;obtain⟨r1,o1,d1⟩:=aZ [69,86,84] (by decide);obtain⟨r,o,dn⟩:=au (37+(q:Int)) [r1] (B:=B) (12100+3*B) (by simp[o1.le (show 1<=B by omega)]) (by first|(simp;done)|(simp;omega)) (by simp) (by first|(simp;done)|(simp;omega));unfold bg at dn;refine⟨r,i2,o,hi2,?_⟩;refine FC.walk (by kernel_rfl) Tryz.func168 rfl rfl ?_
  repeat'(first|exact y0|refine y1 ?_|refine y2 ?_ ?_|(refine y8 ?_ ?_<;>intro h<;>try(exact y6))|(refine wC ?_;first|refine wF 18 (cm c1 ?_)|refine wF 18 (cm c2 ?_)|refine wF 56 (pu d1 ?_)|(refine wF 55 ?_;refine CallG.pl nS [] [r1] (fun _ _=>rfl) dn rfl rfl rfl rfl rfl (by first|rfl|simp) (by first|rfl|simp|(rw[List.map_append];rfl)) rfl ⟨VLe.refl _,VLe.refl _,trivial⟩ rfl rfl rfl ?_))|exact ac (by omega) (by omega)|exact aa (by omega) (by omega)|refine y3 ?_|refine y7 ?_ ?_|refine y4 ?_|(refine y9 ?_ ?_<;>intro h)|exact y5|fail)
  all_goals first
   |exact⟨.inl rfl,_,[],VLe.refl _,EndOK.by rfl ⟨rfl,trivial⟩ rfl rfl rfl rfl⟩
   |omega
   |exact ac (by omega) (by omega)
   |exact aa (by omega) (by omega)
 by_cases hc:k=8
 ·subst hc
  obtain⟨q,i2,hq,hi2,c2⟩:=am l hl 4 (by decide) (by decide) i1 hi1;obtain⟨r1,o1,d1⟩:=bF q (by omega);obtain⟨r,o,dn⟩:=au 39 [r1] (B:=B) (12100+3*B) (by simp[o1.le (show 1<=B by omega)]) (by first|(simp;done)|(simp;omega)) (by simp) (by first|(simp;done)|(simp;omega));unfold bg at dn;refine⟨r,i2,o,hi2,?_⟩;refine FC.walk (by kernel_rfl) Tryz.func168 rfl rfl ?_
  repeat'(first|exact y0|refine y1 ?_|refine y2 ?_ ?_|(refine y8 ?_ ?_<;>intro h<;>try(exact y6))|(refine wC ?_;first|refine wF 18 (cm c1 ?_)|refine wF 18 (cm c2 ?_)|refine wF 58 (pu d1 ?_)|(refine wF 55 ?_;refine CallG.pl nS [] [r1] (fun _ _=>rfl) dn rfl rfl rfl rfl rfl (by first|rfl|simp) (by first|rfl|simp|(rw[List.map_append];rfl)) rfl ⟨VLe.refl _,VLe.refl _,trivial⟩ rfl rfl rfl ?_))|exact ac (by omega) (by omega)|exact aa (by omega) (by omega)|refine y3 ?_|refine y7 ?_ ?_|refine y4 ?_|(refine y9 ?_ ?_<;>intro h)|exact y5|fail)
  all_goals first
   |exact⟨.inl rfl,_,[],VLe.refl _,EndOK.by rfl ⟨rfl,trivial⟩ rfl rfl rfl rfl⟩
   |omega
   |exact ac (by omega) (by omega)
   |exact aa (by omega) (by omega)
 by_cases hc:k=9
 ·subst hc
  obtain⟨s,i2,hs,hi2,c2⟩:=jw l hl i1 hi1;obtain⟨r1,o1,d1⟩:=aZ s (by omega);obtain⟨r2,i3,o2,hi3,c3⟩:=eE 0 (by decide) (by decide) i2 hi2;obtain⟨r,o,dn⟩:=au 40 [r1,r2] (B:=B) (12100+3*B) (by simp[o1.le (show 1<=B by omega),o2.le hB1]) (by first|(simp;done)|(simp;omega)) (by simp) (by first|(simp;done)|(simp;omega));unfold bg at dn;refine⟨r,i3,o,hi3,?_⟩;refine FC.walk (by kernel_rfl) Tryz.func168 rfl rfl ?_
  repeat'(first|exact y0|refine y1 ?_|refine y2 ?_ ?_|(refine y8 ?_ ?_<;>intro h<;>try(exact y6))|(refine wC ?_;first|refine wF 18 (cm c1 ?_)|refine wF 19 (cm c2 ?_)|refine wF 56 (pu d1 ?_)|refine wF 218 (cm c3 ?_)|(refine wF 55 ?_;refine CallG.pl nS [] [r1,r2] (fun _ _=>rfl) dn rfl rfl rfl rfl rfl (by first|rfl|simp) (by first|rfl|simp|(rw[List.map_append];rfl)) rfl ⟨VLe.refl _,VLe.refl _,trivial⟩ rfl rfl rfl ?_))|exact ac (by omega) (by omega)|exact aa (by omega) (by omega)|refine y3 ?_|refine y7 ?_ ?_|refine y4 ?_|(refine y9 ?_ ?_<;>intro h)|exact y5|fail)
  all_goals first
   |exact⟨.inl rfl,_,[],VLe.refl _,EndOK.by rfl ⟨rfl,trivial⟩ rfl rfl rfl rfl⟩
   |omega
   |exact ac (by omega) (by omega)
   |exact aa (by omega) (by omega)
 by_cases hc:k=10
 ·subst hc
  obtain⟨r,i2,o,hi2,c2⟩:=Be l hl dep (by omega) (by omega) args 3000 ha (by decide) (by decide) (eE _ (by omega) (by omega)) i1 hi1;refine⟨r,i2,o.le (by omega),hi2,?_⟩;refine FC.walk (by kernel_rfl) Tryz.func168 rfl rfl ?_
  repeat'(first|exact y0|refine y1 ?_|refine y2 ?_ ?_|(refine y8 ?_ ?_<;>intro h<;>try(exact y6))|(refine wC ?_;first|refine wF 18 (cm c1 ?_)|refine wF 219 (cm c2 ?_))|exact ac (by omega) (by omega)|exact aa (by omega) (by omega)|refine y3 ?_|refine y7 ?_ ?_|refine y4 ?_|(refine y9 ?_ ?_<;>intro h)|exact y5|fail)
  all_goals first
   |exact⟨.inl rfl,_,[],VLe.refl _,EndOK.by rfl ⟨rfl,trivial⟩ rfl rfl rfl rfl⟩
   |omega
   |exact ac (by omega) (by omega)
   |exact aa (by omega) (by omega)
 by_cases hc:k=11
 ·subst hc
  obtain⟨r,i2,o,hi2,c2⟩:=xL l hl dep (by omega) (by omega) args 3000 ha (by decide) (by decide) (eE _ (by omega) (by omega)) i1 hi1;refine⟨r,i2,o.le (by omega),hi2,?_⟩;refine FC.walk (by kernel_rfl) Tryz.func168 rfl rfl ?_
  repeat'(first|exact y0|refine y1 ?_|refine y2 ?_ ?_|(refine y8 ?_ ?_<;>intro h<;>try(exact y6))|(refine wC ?_;first|refine wF 18 (cm c1 ?_)|refine wF 220 (cm c2 ?_))|exact ac (by omega) (by omega)|exact aa (by omega) (by omega)|refine y3 ?_|refine y7 ?_ ?_|refine y4 ?_|(refine y9 ?_ ?_<;>intro h)|exact y5|fail)
  all_goals first
   |exact⟨.inl rfl,_,[],VLe.refl _,EndOK.by rfl ⟨rfl,trivial⟩ rfl rfl rfl rfl⟩
   |omega
   |exact ac (by omega) (by omega)
   |exact aa (by omega) (by omega)
 obtain⟨r1,i2,o1,hi2,c2⟩:=eE dep (by omega) h2 i1 hi1;obtain⟨r2,i3,o2,hi3,c3⟩:=kX l hl dep (by omega) (by omega) args 3000 ha (by decide) (by decide) (fun _=>eE _ (by omega) (by omega)) i2 hi2;obtain⟨r,o,dn⟩:=au 30 [r1,r2] (B:=6001) 12003 (by simp[o1.le (show 3000<=6001 by decide),o2.le (show 1+2*3000<=6001 by decide)]) (by simp) (by simp) (by simp);unfold bg at dn;refine⟨r,i3,o.le (by omega),hi3,?_⟩;by_cases k1:k=1
 ·subst k1
  have hd: ¬dep>0:=by omega
  refine FC.walk (by kernel_rfl) Tryz.func168 rfl rfl ?_
  repeat'(first|exact y0|refine y1 ?_|refine y2 ?_ ?_|(refine y8 ?_ ?_<;>intro h<;>try(exact y6))|(refine wC ?_;first|refine wF 18 (cm c1 ?_)|refine wF 218 (cm c2 ?_)|refine wF 221 (cm c3 ?_)|(refine wF 55 ?_;refine CallG.pl nS [] [r1,r2] (fun _ _=>rfl) dn rfl rfl rfl rfl rfl (by first|rfl|simp) (by first|rfl|simp|(rw[List.map_append];rfl)) rfl ⟨VLe.refl _,VLe.refl _,trivial⟩ rfl rfl rfl ?_))|exact ac (by omega) (by omega)|exact aa (by omega) (by omega)|refine y3 ?_|refine y7 ?_ ?_|refine y4 ?_|(refine y9 ?_ ?_<;>intro h)|exact y5|fail)
  all_goals first
   |exact⟨.inl rfl,_,[],VLe.refl _,EndOK.by rfl ⟨rfl,trivial⟩ rfl rfl rfl rfl⟩
   |omega
   |exact ac (by omega) (by omega)
   |exact aa (by omega) (by omega)
 by_cases k2:k=2
 ·subst k2
  have hd: ¬dep>0:=by omega
  refine FC.walk (by kernel_rfl) Tryz.func168 rfl rfl ?_
  repeat'(first|exact y0|refine y1 ?_|refine y2 ?_ ?_|(refine y8 ?_ ?_<;>intro h<;>try(exact y6))|(refine wC ?_;first|refine wF 18 (cm c1 ?_)|refine wF 218 (cm c2 ?_)|refine wF 221 (cm c3 ?_)|(refine wF 55 ?_;refine CallG.pl nS [] [r1,r2] (fun _ _=>rfl) dn rfl rfl rfl rfl rfl (by first|rfl|simp) (by first|rfl|simp|(rw[List.map_append];rfl)) rfl ⟨VLe.refl _,VLe.refl _,trivial⟩ rfl rfl rfl ?_))|exact ac (by omega) (by omega)|exact aa (by omega) (by omega)|refine y3 ?_|refine y7 ?_ ?_|refine y4 ?_|(refine y9 ?_ ?_<;>intro h)|exact y5|fail)
  all_goals first
   |exact⟨.inl rfl,_,[],VLe.refl _,EndOK.by rfl ⟨rfl,trivial⟩ rfl rfl rfl rfl⟩
   |omega
   |exact ac (by omega) (by omega)
   |exact aa (by omega) (by omega)
 by_cases k4:k=4
 ·subst k4
  have hl2:loop=false:=by cases loop<;>simp_all
  subst hl2;refine FC.walk (by kernel_rfl) Tryz.func168 rfl rfl ?_
  repeat'(first|exact y0|refine y1 ?_|refine y2 ?_ ?_|(refine y8 ?_ ?_<;>intro h<;>try(exact y6))|(refine wC ?_;first|refine wF 18 (cm c1 ?_)|refine wF 218 (cm c2 ?_)|refine wF 221 (cm c3 ?_)|(refine wF 55 ?_;refine CallG.pl nS [] [r1,r2] (fun _ _=>rfl) dn rfl rfl rfl rfl rfl (by first|rfl|simp) (by first|rfl|simp|(rw[List.map_append];rfl)) rfl ⟨VLe.refl _,VLe.refl _,trivial⟩ rfl rfl rfl ?_))|exact ac (by omega) (by omega)|exact aa (by omega) (by omega)|refine y3 ?_|refine y7 ?_ ?_|refine y4 ?_|(refine y9 ?_ ?_<;>intro h)|exact y5|fail)
  all_goals first
   |exact⟨.inl rfl,_,[],VLe.refl _,EndOK.by rfl ⟨rfl,trivial⟩ rfl rfl rfl rfl⟩
   |omega
   |exact ac (by omega) (by omega)
   |exact aa (by omega) (by omega)
 by_cases k5:k=5
 ·subst k5
  have hl2:loop=false:=by cases loop<;>simp_all
  subst hl2;refine FC.walk (by kernel_rfl) Tryz.func168 rfl rfl ?_
  repeat'(first|exact y0|refine y1 ?_|refine y2 ?_ ?_|(refine y8 ?_ ?_<;>intro h<;>try(exact y6))|(refine wC ?_;first|refine wF 18 (cm c1 ?_)|refine wF 218 (cm c2 ?_)|refine wF 221 (cm c3 ?_)|(refine wF 55 ?_;refine CallG.pl nS [] [r1,r2] (fun _ _=>rfl) dn rfl rfl rfl rfl rfl (by first|rfl|simp) (by first|rfl|simp|(rw[List.map_append];rfl)) rfl ⟨VLe.refl _,VLe.refl _,trivial⟩ rfl rfl rfl ?_))|exact ac (by omega) (by omega)|exact aa (by omega) (by omega)|refine y3 ?_|refine y7 ?_ ?_|refine y4 ?_|(refine y9 ?_ ?_<;>intro h)|exact y5|fail)
  all_goals first
   |exact⟨.inl rfl,_,[],VLe.refl _,EndOK.by rfl ⟨rfl,trivial⟩ rfl rfl rfl rfl⟩
   |omega
   |exact ac (by omega) (by omega)
   |exact aa (by omega) (by omega)
 refine FC.walk (by kernel_rfl) Tryz.func168 rfl rfl ?_
 repeat'(first|exact y0|refine y1 ?_|refine y2 ?_ ?_|(refine y8 ?_ ?_<;>intro h<;>try(exact y6))|(refine wC ?_;first|refine wF 18 (cm c1 ?_)|refine wF 218 (cm c2 ?_)|refine wF 221 (cm c3 ?_)|(refine wF 55 ?_;refine CallG.pl nS [] [r1,r2] (fun _ _=>rfl) dn rfl rfl rfl rfl rfl (by first|rfl|simp) (by first|rfl|simp|(rw[List.map_append];rfl)) rfl ⟨VLe.refl _,VLe.refl _,trivial⟩ rfl rfl rfl ?_))|exact ac (by omega) (by omega)|exact aa (by omega) (by omega)|refine y3 ?_|refine y7 ?_ ?_|refine y4 ?_|(refine y9 ?_ ?_<;>intro h)|exact y5|fail)
 all_goals first
  |exact⟨.inl rfl,_,[],VLe.refl _,EndOK.by rfl ⟨rfl,trivial⟩ rfl rfl rfl rfl⟩
  |omega
  |exact ac (by omega) (by omega)
  |exact aa (by omega) (by omega)
theorem BlockE.up {l:List Int} {dep:Int} {args:Nat} {loop:Bool} {B C:Nat} (hbc:B<=C) (h:BlockE l dep args loop B):BlockE l dep args loop C:=fun i hi=>by
 obtain⟨r,i',o,h⟩:=h i hi;exact⟨r,i',o.le hbc,h⟩
theorem Dt (l:List Int) (hl:l.length<=20000000000000) (args:Nat) (ha:args<=100):∀ dep:Int,0<=dep->dep<=3->∀ loop,BlockE l dep args loop 50000000:=by
 have s0:∀ loop,BlockE l 0 args loop (1+3*(12100+3*3000)):=fun loop=>kK l hl 0 args loop _ (by decide) (nV l hl 0 (by decide) (by decide) args ha 3000 (by decide) (by decide) (fun h=>absurd h (by decide)) loop)
 have s1:∀ loop,BlockE l 1 args loop (1+3*(12100+3*(1+3*(12100+3*3000)))):=fun loop=>kK l hl 1 args loop _ (by decide) (nV l hl 1 (by decide) (by decide) args ha _ (by decide) (by decide) (fun _ loop=>s0 loop) loop)
 have s2:∀ loop,BlockE l 2 args loop (1+3*(12100+3*(1+3*(12100+3*(1+3*(12100+3*3000)))))):=fun loop=>kK l hl 2 args loop _ (by decide) (nV l hl 2 (by decide) (by decide) args ha _ (by decide) (by decide) (fun _ loop=>s1 loop) loop)
 have s3:∀ loop,BlockE l 3 args loop (1+3*(12100+3*(1+3*(12100+3*(1+3*(12100+3*(1+3*(12100+3*3000)))))))):=fun loop=>kK l hl 3 args loop _ (by decide) (nV l hl 3 (by decide) (by decide) args ha _ (by decide) (by decide) (fun _ loop=>s2 loop) loop)
 intro dep h1 h2 loop
 rcases (by omega:dep=0\/dep=1\/dep=2\/dep=3) with rfl|rfl|rfl|rfl
 ·exact (s0 loop).up (by decide)
 ·exact (s1 loop).up (by decide)
 ·exact (s2 loop).up (by decide)
 ·exact (s3 loop).up (by decide)
theorem lz (l:List Int) (hl:l.length<=20000000000000) (s:By) (hs:s.length<=1000) (dep:Int) (h1:0<=dep) (h2:dep<=3) (i:Nat) (hi:i<=l.length):
 ∃ (r:List Nd) (i':Nat),OKr 300000000 r/\i'<=l.length/\FC Tryz.prog 59 [cP,sV s,nI dep] 1 (chL l i) (ae r) 1 (chL l i'):=by
 obtain⟨k,i1,hk,hi1,c1⟩:=am l hl 3 (by decide) (by decide) i hi;obtain⟨m,i2,hm2,hi2,c2⟩:=am l hl 2 (by decide) (by decide) i1 hi1;obtain⟨q,i3,hq,hi3,c3⟩:=am l hl 3 (by decide) (by decide) i2 hi2;obtain⟨rb,i4,ob,hi4,c4⟩:=Dt l hl k (by omega) dep h1 h2 false i3 hi3;obtain⟨r1,o1,d1⟩:=aZ s hs;obtain⟨r2,o2,d2⟩:=bF k (by omega);obtain⟨r3,o3,d3⟩:=bF m (by omega);obtain⟨r4,o4,d4⟩:=bF q (by omega);obtain⟨r,o,dn⟩:=au 14 [r1,r2,r3,r4,rb] (B:=50000000) 300000000 (by simp[o1.le,o2.le,o3.le,o4.le,ob]) (by simp) (by simp) (by simp);unfold bg at dn;refine⟨r,i4,o,hi4,?_⟩;refine FC.walk (by kernel_rfl) Tryz.func59 rfl rfl ?_
 repeat'(first|exact y0|refine y1 ?_|refine y2 ?_ ?_|(refine y8 ?_ ?_<;>intro h<;>try(exact y6))|(refine wC ?_;first|refine wF 18 (cm c1 ?_)|refine wF 18 (cm c2 ?_)|refine wF 18 (cm c3 ?_)|refine wF 56 (pu d1 ?_)|refine wF 58 (pu d2 ?_)|refine wF 58 (pu d3 ?_)|refine wF 58 (pu d4 ?_)|refine wF 104 (cm c4 ?_)|(refine wF 55 ?_;refine CallG.pl nS [] [r1,r2,r3,r4,rb] (fun _ _=>rfl) dn rfl rfl rfl rfl rfl (by first|rfl|simp) (by first|rfl|simp|(rw[List.map_append];rfl)) rfl ⟨VLe.refl _,VLe.refl _,trivial⟩ rfl rfl rfl ?_))|exact ac (by omega) (by omega)|exact aa (by omega) (by omega)|refine y3 ?_|refine y7 ?_ ?_|refine y4 ?_|(refine y9 ?_ ?_<;>intro h)|exact y5|fail)
 all_goals first
  |exact⟨.inl rfl,_,[],VLe.refl _,EndOK.by rfl ⟨rfl,trivial⟩ rfl rfl rfl rfl⟩
  |omega
  |exact ac (by omega) (by omega)
  |exact aa (by omega) (by omega)
set_option maxRecDepth 100000
set_option maxHeartbeats 4000000
def ka (l:List Int) (dep:Int) (B:Nat):Prop:=∀ i,i<=l.length->∃ (r:List Nd) (i':Nat),OKr B r/\i'<=l.length/\FC Tryz.prog 22 [cP,nI dep] 1 (chL l i) (ae r) 1 (chL l i')
def BM (l:List Int) (dep:Int) (B:Nat):Prop:=∀ i,i<=l.length->∃ (r:List Nd) (i':Nat),OKr B r/\i'<=l.length/\FC Tryz.prog 57 [cP,nI dep] 1 (chL l i) (ae r) 1 (chL l i')
inductive DcT (l:List Int) (dep:Int):Nat->Nat->List (List Nd)->Nat->Prop
 |nil (i:Nat):DcT l dep 0 i [] i
 |stop {n i:Nat} (c:FC Tryz.prog 46 [cP] 1 (chL l i) (bV false) 1 (chL l i)):DcT l dep (n+1) i [] i
 |cons {n i i1 i':Nat} {r:List Nd} {K:List (List Nd)} (c:FC Tryz.prog 46 [cP] 1 (chL l i) (bV true) 1 (chL l i)) (c2:FC Tryz.prog 22 [cP,nI dep] 1 (chL l i) (ae r) 1 (chL l i1)) (hr:r≠[]) (t:DcT l dep n i1 K i'):DcT l dep (n+1) i (r::K) i'
theorem vj {l:List Int} {dep:Int} {n i i':Nat} {K:List (List Nd)} (h:DcT l dep n i K i'):K.length<=n:=by
 induction h with
 |nil i=>simp
 |stop _=>simp
 |cons _ _ _ _ ih=>simp;omega
theorem FT (l:List Int) (hl:l.length<=20000000000000) (dep:Int) (B:Nat) (hS:ka l dep B):∀ (n i:Nat),i<=l.length->∃ K i',DcT l dep n i K i'/\i'<=l.length/\∀ r∈K,OKr B r
 |0,i,hi=>⟨[],i,.nil i,hi,fun r hr=>by cases hr⟩
 |n+1,i,hi=>by
  obtain⟨b,hb,c⟩:=za l hl i hi
  cases b with
  |false=>exact⟨[],i,.stop c,hi,fun r hr=>by cases hr⟩
  |true=>
   obtain⟨r,i1,o,hi1,c2⟩:=hS i hi;obtain⟨K,i',h1,h2,h4⟩:=FT l hl dep B hS n i1 hi1;refine⟨r::K,i',.cons c c2 o.ne h1,h2,fun q hq=>?_⟩
   rcases List.mem_cons.1 hq with rfl|hq
   ·exact o
   ·exact h4 q hq
theorem vi (l:List Int) (hl:l.length<=20000000000000) (dep:Int) (B:Nat) (hB2:B<=100000000000) (hS:ka l dep B):BM l dep (1+3*B):=by
 intro i hi;obtain⟨m,i2,hm2,hi2,c2⟩:=am l hl 4 (by decide) (by decide) i hi;obtain⟨K,i3,hB,hi3,hK⟩:=FT l hl dep B hS m i2 hi2;have hKl:=vj hB;have hKB:K.length*B<=3*B:=Nat.mul_le_mul_right B (by omega);obtain⟨r,o,dn⟩:=au 4 K (B:=B) (1+3*B) hK (by omega) (by omega) (by omega);unfold bg at dn;refine⟨r,i3,o,hi3,?_⟩
 have hsz:(Tryz.prog.types[32]).size=1:=by kernel_rfl
 have hby:(Tryz.prog.types[32]).bytes=24:=by kernel_rfl
 refine FC.walk (by kernel_rfl) Tryz.func57 rfl rfl ?_
 repeat'(first|exact y0|refine y1 ?_|refine y2 ?_ ?_|(refine y8 ?_ ?_<;>intro h<;>try exact y6)|(refine wC ?_;first|refine wF 18 (cm c2 ?_))|refine y3 ?_|refine y7 ?_ ?_|refine y4 ?_|(refine y9 ?_ ?_<;>intro h)|exact y5|fail)
 refine Ex.set 5 (.s (.row 1 2 0)) (VLe.s SLe.nilrow) rfl (Ex.upN (n':=3) (by omega) ?_)
 refine Ex.inv (σ:=Nat×Nat×List (List Nd)) (fun s=>[(5,.s (.row 1 2 s.2.2.length)),(6,nI s.1)]) (fun s=>[(0,some {cells:=[chF l,.int .i64 (s.2.1:Int)],ty:=97}),(1,iO 1 s.2.2)])
  (fun s=>∃ R,DcT l dep s.1 s.2.1 R i3/\s.2.2++R=K/\s.2.2.length+s.1<=3) (fun s=>s.1) (m,i2,[]) rfl (fun _=>rfl) ⟨K,hB,rfl,by simp;omega⟩ ⟨VLe.refl _,VLe.refl _,trivial⟩ ⟨rfl,trivial⟩ ?_
 rintro⟨n,j,D⟩ ⟨R,hR,hD,hDn⟩;simp only at hR hD hDn |-
 cases hR with
 |nil=>
  rw[List.append_nil] at hD;subst hD
  cases D with
  |nil=>
   repeat'(first|exact y0|refine y1 ?_|refine y2 ?_ ?_|(refine y8 ?_ ?_<;>intro h<;>try exact y6)|(refine wC ?_;first|(refine wF 55 ?_;refine CallG.we dn rfl ⟨VLe.refl _,VLe.s SLe.row0,trivial⟩ rfl rfl rfl ?_))|exact ac (by omega) (by omega)|exact aa (by omega) (by omega)|refine y3 ?_|refine y7 ?_ ?_|refine y4 ?_|(refine y9 ?_ ?_<;>intro h)|exact y5|fail)
   all_goals first
    |exact⟨.inl rfl,_,[],VLe.refl _,EndOK.by rfl ⟨rfl,trivial⟩ rfl rfl rfl rfl⟩
    |omega
    |exact ac (by omega) (by omega)
    |exact aa (by omega) (by omega)
  |cons x D=>
   repeat'(first|exact y0|refine y1 ?_|refine y2 ?_ ?_|(refine y8 ?_ ?_<;>intro h<;>try exact y6)|(refine wC ?_;first|(refine wF 55 ?_;refine CallG.pl nS [] (x::D) (fun _ _=>rfl) dn rfl rfl rfl rfl rfl (by first|rfl|simp) (by first|rfl|simp|(rw[List.map_append];rfl)) rfl ⟨VLe.refl _,VLe.refl _,trivial⟩ rfl rfl rfl ?_))|exact ac (by omega) (by omega)|exact aa (by omega) (by omega)|refine y3 ?_|refine y7 ?_ ?_|refine y4 ?_|(refine y9 ?_ ?_<;>intro h)|exact y5|fail)
   all_goals first
    |exact⟨.inl rfl,_,[],VLe.refl _,EndOK.by rfl ⟨rfl,trivial⟩ rfl rfl rfl rfl⟩
    |omega
    |exact ac (by omega) (by omega)
    |exact aa (by omega) (by omega)
 |stop c=>
  rw[List.append_nil] at hD;subst hD
  cases D with
  |nil=>
   repeat'(first|exact y0|refine y1 ?_|refine y2 ?_ ?_|(refine y8 ?_ ?_<;>intro h<;>try exact y6)|(refine wC ?_;first|refine wF 46 (cm c ?_)|(refine wF 55 ?_;refine CallG.we dn rfl ⟨VLe.refl _,VLe.s SLe.row0,trivial⟩ rfl rfl rfl ?_))|exact ac (by omega) (by omega)|exact aa (by omega) (by omega)|refine y3 ?_|refine y7 ?_ ?_|refine y4 ?_|(refine y9 ?_ ?_<;>intro h)|exact y5|fail)
   all_goals first
    |exact⟨.inl rfl,_,[],VLe.refl _,EndOK.by rfl ⟨rfl,trivial⟩ rfl rfl rfl rfl⟩
    |omega
    |exact ac (by omega) (by omega)
    |exact aa (by omega) (by omega)
  |cons x D=>
   repeat'(first|exact y0|refine y1 ?_|refine y2 ?_ ?_|(refine y8 ?_ ?_<;>intro h<;>try exact y6)|(refine wC ?_;first|refine wF 46 (cm c ?_)|(refine wF 55 ?_;refine CallG.pl nS [] (x::D) (fun _ _=>rfl) dn rfl rfl rfl rfl rfl (by first|rfl|simp) (by first|rfl|simp|(rw[List.map_append];rfl)) rfl ⟨VLe.refl _,VLe.refl _,trivial⟩ rfl rfl rfl ?_))|exact ac (by omega) (by omega)|exact aa (by omega) (by omega)|refine y3 ?_|refine y7 ?_ ?_|refine y4 ?_|(refine y9 ?_ ?_<;>intro h)|exact y5|fail)
   all_goals first
    |exact⟨.inl rfl,_,[],VLe.refl _,EndOK.by rfl ⟨rfl,trivial⟩ rfl rfl rfl rfl⟩
    |omega
    |exact ac (by omega) (by omega)
    |exact aa (by omega) (by omega)
 | @cons n _ j1 _ r' R' c cc2 hr t=>
   repeat'(first|exact y0|refine y1 ?_|refine y2 ?_ ?_|(refine y8 ?_ ?_<;>intro h<;>try exact y6)|(refine wC ?_;first|refine wF 46 (cm c ?_)|refine wF 22 (cm cc2 ?_))|exact ac (by omega) (by omega)|exact aa (by omega) (by omega)|refine RegX.apr (i:=1) (g:=2) (m:=D.length) (w:=1) (cs:=D.map fun r=>nS r) (foot:=[3]) (k:=1) (add:=[nS r']) rfl rfl (by simp) rfl rfl rfl rfl rfl rfl rfl hsz (by decide) rfl ⟨Nat.le_refl _,rfl⟩ (by decide) (by simp) rfl (by rw[hby];omega) (by omega) rfl ?_|refine y3 ?_|refine y7 ?_ ?_|refine y4 ?_|(refine y9 ?_ ?_<;>intro h)|exact y5|fail)
   all_goals try first
    |exact aa (by push_cast;omega) (by push_cast;omega)
    |omega
   refine LoopR.move (n,j1,D++[r']) ⟨R',t,by simpa using hD,by simp;omega⟩ (by first|(simp only;omega)|(simp only[List.length_cons];omega)) [0,4,5] rfl ?_ ?_ ?_
   ·repeat' (first|exact VLe.refl _|exact VLe.any _|exact True.intro|exact VLe.of_eq (congrArg nI (by push_cast;omega))|(refine VLe.of_eq (congrArg V.s (?_:S.row 4 5 _=S.row 4 5 _));simp;done)|refine⟨?_,?_⟩)
   ·refine⟨rfl,MemP.op ?_ trivial⟩
    rw[List.map_append];rfl
   ·exact (by unfold iO;generalize List.map _ _=cg;cases cg<;>rfl)
theorem tD (l:List Int) (hl:l.length<=20000000000000) (dep:Int) (h1:0<=dep) (h2:dep<=2) (B:Nat) (hB1:300000000<=B) (hB2:B<=100000000000) (hB:0<dep->BM l (dep-1) B):ka l dep (1+4*B):=by
 intro i hi;obtain⟨kn,i0,hkn,hi0,c0⟩:=am l hl 10 (by decide) (by decide) i hi;obtain⟨s,hs,cs⟩:=DW kn hkn;obtain⟨k,i1,hk,hi1,c1⟩:=am l hl 10 (by decide) (by decide) i0 hi0;obtain⟨r1,o1,d1⟩:=aZ s (by omega);by_cases hc:k=1/\0<dep
 ·obtain⟨rfl,hd⟩:=hc
  obtain⟨r2,i2,o2,hi2,c2⟩:=hB hd i1 hi1;obtain⟨r,o,dn⟩:=au 11 [r1,r2] (B:=B) (1+4*B) (by simp[o1.le (show 1<=B by omega),o2]) (by first|(simp;done)|(simp;omega)) (by simp) (by first|(simp;done)|(simp;omega));unfold bg at dn;refine⟨r,i2,o,hi2,?_⟩;refine FC.walk (by kernel_rfl) Tryz.func22 rfl rfl ?_
  repeat'(first|exact y0|refine y1 ?_|refine y2 ?_ ?_|(refine y8 ?_ ?_<;>intro h<;>try(exact y6))|(refine wC ?_;first|refine wF 18 (cm c0 ?_)|refine wF 18 (cm c1 ?_)|refine wF 37 (pu cs ?_)|refine wF 56 (pu d1 ?_)|refine wF 57 (cm c2 ?_)|(refine wF 55 ?_;refine CallG.pl nS [] [r1,r2] (fun _ _=>rfl) dn rfl rfl rfl rfl rfl (by first|rfl|simp) (by first|rfl|simp|(rw[List.map_append];rfl)) rfl ⟨VLe.refl _,VLe.refl _,trivial⟩ rfl rfl rfl ?_))|exact ac (by omega) (by omega)|exact aa (by omega) (by omega)|refine y3 ?_|refine y7 ?_ ?_|refine y4 ?_|(refine y9 ?_ ?_<;>intro h)|exact y5|fail)
  all_goals first
   |exact⟨.inl rfl,_,[],VLe.refl _,EndOK.by rfl ⟨rfl,trivial⟩ rfl rfl rfl rfl⟩
   |omega
   |exact ac (by omega) (by omega)
   |exact aa (by omega) (by omega)
 by_cases hc:k=2/\0<dep
 ·obtain⟨rfl,hd⟩:=hc
  obtain⟨m,i2,hm2,hi2,c2⟩:=am l hl 6 (by decide) (by decide) i1 hi1;obtain⟨q,i3,hq,hi3,c3⟩:=am l hl 9 (by decide) (by decide) i2 hi2;obtain⟨r2,o2,d2⟩:=bF m (by omega);obtain⟨r3,o3,d3⟩:=bF q (by omega);obtain⟨r4,i4,o4,hi4,c4⟩:=hB hd i3 hi3;obtain⟨r,o,dn⟩:=au 12 [r1,r2,r3,r4] (B:=B) (1+4*B) (by simp[o1.le (show 1<=B by omega),o2.le (show 1<=B by omega),o3.le (show 1<=B by omega),o4]) (by first|(simp;done)|(simp;omega)) (by simp) (by first|(simp;done)|(simp;omega));unfold bg at dn;refine⟨r,i4,o,hi4,?_⟩;refine FC.walk (by kernel_rfl) Tryz.func22 rfl rfl ?_
  repeat'(first|exact y0|refine y1 ?_|refine y2 ?_ ?_|(refine y8 ?_ ?_<;>intro h<;>try(exact y6))|(refine wC ?_;first|refine wF 18 (cm c0 ?_)|refine wF 18 (cm c1 ?_)|refine wF 37 (pu cs ?_)|refine wF 56 (pu d1 ?_)|refine wF 18 (cm c2 ?_)|refine wF 18 (cm c3 ?_)|refine wF 58 (pu d2 ?_)|refine wF 58 (pu d3 ?_)|refine wF 57 (cm c4 ?_)|(refine wF 55 ?_;refine CallG.pl nS [] [r1,r2,r3,r4] (fun _ _=>rfl) dn rfl rfl rfl rfl rfl (by first|rfl|simp) (by first|rfl|simp|(rw[List.map_append];rfl)) rfl ⟨VLe.refl _,VLe.refl _,trivial⟩ rfl rfl rfl ?_))|exact ac (by omega) (by omega)|exact aa (by omega) (by omega)|refine y3 ?_|refine y7 ?_ ?_|refine y4 ?_|(refine y9 ?_ ?_<;>intro h)|exact y5|fail)
  all_goals first
   |exact⟨.inl rfl,_,[],VLe.refl _,EndOK.by rfl ⟨rfl,trivial⟩ rfl rfl rfl rfl⟩
   |omega
   |exact ac (by omega) (by omega)
   |exact aa (by omega) (by omega)
 by_cases hc:k=3/\0<dep
 ·obtain⟨rfl,hd⟩:=hc
  obtain⟨m,i2,hm2,hi2,c2⟩:=am l hl 5 (by decide) (by decide) i1 hi1
  obtain⟨z,hz0,hz⟩:∃ z:By,z.length<=1000/\z=(if m=0 then [92] else if m=1 then [92,95,83,66] else if m=2 then [68,69,86,48] else if m=3 then [65] else [94]):=⟨_,by (repeat' split)<;>simp,rfl⟩
  obtain⟨r2,o2,d2⟩:=aZ z hz0;obtain⟨r4,i4,o4,hi4,c4⟩:=hB hd i2 hi2;obtain⟨r,o,dn⟩:=au 10 [r2,r4] (B:=B) (1+4*B) (by simp[o2.le (show 1<=B by omega),o4]) (by first|(simp;done)|(simp;omega)) (by simp) (by first|(simp;done)|(simp;omega));unfold bg at dn;refine⟨r,i4,o,hi4,?_⟩
  rcases (by omega:m=0\/m=1\/m=2\/m=3\/m=4) with rfl|rfl|rfl|rfl|rfl<;>subst hz
  all_goals
   refine FC.walk (by kernel_rfl) Tryz.func22 rfl rfl ?_
   repeat'(first|exact y0|refine y1 ?_|refine y2 ?_ ?_|(refine y8 ?_ ?_<;>intro h<;>try(exact y6))|(refine wC ?_;first|refine wF 18 (cm c0 ?_)|refine wF 18 (cm c1 ?_)|refine wF 37 (pu cs ?_)|refine wF 56 (pu d1 ?_)|refine wF 18 (cm c2 ?_)|refine wF 56 (pu d2 ?_)|refine wF 57 (cm c4 ?_)|(refine wF 55 ?_;refine CallG.pl nS [] [r2,r4] (fun _ _=>rfl) dn rfl rfl rfl rfl rfl (by first|rfl|simp) (by first|rfl|simp|(rw[List.map_append];rfl)) rfl ⟨VLe.refl _,VLe.refl _,trivial⟩ rfl rfl rfl ?_))|exact ac (by omega) (by omega)|exact aa (by omega) (by omega)|refine y3 ?_|refine y7 ?_ ?_|refine y4 ?_|(refine y9 ?_ ?_<;>intro h)|exact y5|fail)
   all_goals first
    |exact⟨.inl rfl,_,[],VLe.refl _,EndOK.by rfl ⟨rfl,trivial⟩ rfl rfl rfl rfl⟩
    |omega
    |exact ac (by omega) (by omega)
    |exact aa (by omega) (by omega)
 by_cases hc:k=4
 ·subst hc
  obtain⟨r,i2,o,hi2,c2⟩:=lz l hl s (by omega) 2 (by decide) (by decide) i1 hi1;refine⟨r,i2,o.le (by omega),hi2,?_⟩;refine FC.walk (by kernel_rfl) Tryz.func22 rfl rfl ?_
  repeat'(first|exact y0|refine y1 ?_|refine y2 ?_ ?_|(refine y8 ?_ ?_<;>intro h<;>try(exact y6))|(refine wC ?_;first|refine wF 18 (cm c0 ?_)|refine wF 18 (cm c1 ?_)|refine wF 37 (pu cs ?_)|refine wF 56 (pu d1 ?_)|refine wF 59 (cm c2 ?_))|exact ac (by omega) (by omega)|exact aa (by omega) (by omega)|refine y3 ?_|refine y7 ?_ ?_|refine y4 ?_|(refine y9 ?_ ?_<;>intro h)|exact y5|fail)
  all_goals first
   |exact⟨.inl rfl,_,[],VLe.refl _,EndOK.by rfl ⟨rfl,trivial⟩ rfl rfl rfl rfl⟩
   |omega
   |exact ac (by omega) (by omega)
   |exact aa (by omega) (by omega)
 by_cases hc:k=5
 ·subst hc
  obtain⟨r,i2,o,hi2,c2⟩:=yg l hl i1 hi1 s (by omega);refine⟨r,i2,o.le (by omega),hi2,?_⟩;refine FC.walk (by kernel_rfl) Tryz.func22 rfl rfl ?_
  repeat'(first|exact y0|refine y1 ?_|refine y2 ?_ ?_|(refine y8 ?_ ?_<;>intro h<;>try(exact y6))|(refine wC ?_;first|refine wF 18 (cm c0 ?_)|refine wF 18 (cm c1 ?_)|refine wF 37 (pu cs ?_)|refine wF 56 (pu d1 ?_)|refine wF 60 (cm c2 ?_))|exact ac (by omega) (by omega)|exact aa (by omega) (by omega)|refine y3 ?_|refine y7 ?_ ?_|refine y4 ?_|(refine y9 ?_ ?_<;>intro h)|exact y5|fail)
  all_goals first
   |exact⟨.inl rfl,_,[],VLe.refl _,EndOK.by rfl ⟨rfl,trivial⟩ rfl rfl rfl rfl⟩
   |omega
   |exact ac (by omega) (by omega)
   |exact aa (by omega) (by omega)
 by_cases hc:k=6
 ·subst hc
  obtain⟨q,i2,hq,hi2,c2⟩:=am l hl 2 (by decide) (by decide) i1 hi1;by_cases hq0:q=0
  ·subst hq0
   obtain⟨r,i3,o,hi3,c3⟩:=iY l hl [s] (by simp) (by simp;omega) true 2 (.inr rfl) i2 hi2;unfold aJ at c3;refine⟨r,i3,o.le (by omega),hi3,?_⟩;refine FC.walk (by kernel_rfl) Tryz.func22 rfl rfl ?_
   repeat'(first|exact y0|refine y1 ?_|refine y2 ?_ ?_|(refine y8 ?_ ?_<;>intro h<;>try(exact y6))|(refine wC ?_;first|refine wF 18 (cm c0 ?_)|refine wF 18 (cm c1 ?_)|refine wF 37 (pu cs ?_)|refine wF 56 (pu d1 ?_)|refine wF 18 (cm c2 ?_)|(refine wF 61 ?_;refine CallG.mz 1 S.str [] [s] (fun _ _=>rfl) [0] c3 rfl rfl rfl rfl rfl rfl rfl rfl rfl ⟨VLe.refl _,VLe.refl _,VLe.refl _,VLe.refl _,trivial⟩ ⟨⟨rfl,_,rfl,rfl,fun h=>h⟩,trivial⟩ rfl rfl rfl ?_))|exact ac (by omega) (by omega)|exact aa (by omega) (by omega)|refine y3 ?_|refine y7 ?_ ?_|refine y4 ?_|(refine y9 ?_ ?_<;>intro h)|exact y5|fail)
   all_goals first
    |exact⟨.inl rfl,_,[],VLe.refl _,EndOK.by rfl ⟨rfl,trivial⟩ rfl rfl rfl rfl⟩
    |omega
    |exact ac (by omega) (by omega)
    |exact aa (by omega) (by omega)
  ·obtain⟨r,i3,o,hi3,c3⟩:=iY l hl [s] (by simp) (by simp;omega) false 2 (.inr rfl) i2 hi2
   unfold aJ at c3;refine⟨r,i3,o.le (by omega),hi3,?_⟩;refine FC.walk (by kernel_rfl) Tryz.func22 rfl rfl ?_
   repeat'(first|exact y0|refine y1 ?_|refine y2 ?_ ?_|(refine y8 ?_ ?_<;>intro h<;>try(exact y6))|(refine wC ?_;first|refine wF 18 (cm c0 ?_)|refine wF 18 (cm c1 ?_)|refine wF 37 (pu cs ?_)|refine wF 56 (pu d1 ?_)|refine wF 18 (cm c2 ?_)|(refine wF 61 ?_;refine CallG.mz 1 S.str [] [s] (fun _ _=>rfl) [0] c3 rfl rfl rfl rfl rfl rfl rfl rfl rfl ⟨VLe.refl _,VLe.refl _,VLe.refl _,VLe.refl _,trivial⟩ ⟨⟨rfl,_,rfl,rfl,fun h=>h⟩,trivial⟩ rfl rfl rfl ?_))|exact ac (by omega) (by omega)|exact aa (by omega) (by omega)|refine y3 ?_|refine y7 ?_ ?_|refine y4 ?_|(refine y9 ?_ ?_<;>intro h)|exact y5|fail)
   all_goals first
    |exact⟨.inl rfl,_,[],VLe.refl _,EndOK.by rfl ⟨rfl,trivial⟩ rfl rfl rfl rfl⟩
    |omega
    |exact ac (by omega) (by omega)
    |exact aa (by omega) (by omega)
 by_cases hc:k=7
 ·subst hc
  obtain⟨m,i2,hm2,hi2,c2⟩:=am l hl 18 (by decide) (by decide) i1 hi1;obtain⟨r2,o2,d2⟩:=bF m (by omega);obtain⟨r,o,dn⟩:=au 20 [r1,r2] (B:=1) 3 (by simp[o1,o2]) (by simp) (by simp) (by simp);unfold bg at dn;refine⟨r,i2,o.le (by omega),hi2,?_⟩;refine FC.walk (by kernel_rfl) Tryz.func22 rfl rfl ?_
  repeat'(first|exact y0|refine y1 ?_|refine y2 ?_ ?_|(refine y8 ?_ ?_<;>intro h<;>try(exact y6))|(refine wC ?_;first|refine wF 18 (cm c0 ?_)|refine wF 18 (cm c1 ?_)|refine wF 37 (pu cs ?_)|refine wF 56 (pu d1 ?_)|refine wF 18 (cm c2 ?_)|refine wF 58 (pu d2 ?_)|(refine wF 55 ?_;refine CallG.pl nS [] [r1,r2] (fun _ _=>rfl) dn rfl rfl rfl rfl rfl (by first|rfl|simp) (by first|rfl|simp|(rw[List.map_append];rfl)) rfl ⟨VLe.refl _,VLe.refl _,trivial⟩ rfl rfl rfl ?_))|exact ac (by omega) (by omega)|exact aa (by omega) (by omega)|refine y3 ?_|refine y7 ?_ ?_|refine y4 ?_|(refine y9 ?_ ?_<;>intro h)|exact y5|fail)
  all_goals first
   |exact⟨.inl rfl,_,[],VLe.refl _,EndOK.by rfl ⟨rfl,trivial⟩ rfl rfl rfl rfl⟩
   |omega
   |exact ac (by omega) (by omega)
   |exact aa (by omega) (by omega)
 by_cases hc:k=8
 ·subst hc
  obtain⟨r,o,dn⟩:=au 21 [r1] (B:=1) 3 (by simp[o1]) (by simp) (by simp) (by simp);unfold bg at dn;refine⟨r,i1,o.le (by omega),hi1,?_⟩;refine FC.walk (by kernel_rfl) Tryz.func22 rfl rfl ?_
  repeat'(first|exact y0|refine y1 ?_|refine y2 ?_ ?_|(refine y8 ?_ ?_<;>intro h<;>try(exact y6))|(refine wC ?_;first|refine wF 18 (cm c0 ?_)|refine wF 18 (cm c1 ?_)|refine wF 37 (pu cs ?_)|refine wF 56 (pu d1 ?_)|(refine wF 55 ?_;refine CallG.pl nS [] [r1] (fun _ _=>rfl) dn rfl rfl rfl rfl rfl (by first|rfl|simp) (by first|rfl|simp|(rw[List.map_append];rfl)) rfl ⟨VLe.refl _,VLe.refl _,trivial⟩ rfl rfl rfl ?_))|exact ac (by omega) (by omega)|exact aa (by omega) (by omega)|refine y3 ?_|refine y7 ?_ ?_|refine y4 ?_|(refine y9 ?_ ?_<;>intro h)|exact y5|fail)
  all_goals first
   |exact⟨.inl rfl,_,[],VLe.refl _,EndOK.by rfl ⟨rfl,trivial⟩ rfl rfl rfl rfl⟩
   |omega
   |exact ac (by omega) (by omega)
   |exact aa (by omega) (by omega)
 obtain⟨r2,i2,o2,hi2,c2⟩:=jL l hl 2 (by decide) i1 hi1;obtain⟨r,o,dn⟩:=au 13 [r1,r2] (B:=1000) 2001 (by simp[o1.le (show 1<=1000 by decide),o2.le (show 10^(2+1)<=1000 by decide)]) (by simp) (by simp) (by simp);unfold bg at dn;refine⟨r,i2,o.le (by omega),hi2,?_⟩;by_cases k1:k=1
 ·subst k1
  have hd: ¬dep>0:=by omega
  refine FC.walk (by kernel_rfl) Tryz.func22 rfl rfl ?_
  repeat'(first|exact y0|refine y1 ?_|refine y2 ?_ ?_|(refine y8 ?_ ?_<;>intro h<;>try(exact y6))|(refine wC ?_;first|refine wF 18 (cm c0 ?_)|refine wF 18 (cm c1 ?_)|refine wF 37 (pu cs ?_)|refine wF 56 (pu d1 ?_)|refine wF 62 (cm c2 ?_)|(refine wF 55 ?_;refine CallG.pl nS [] [r1,r2] (fun _ _=>rfl) dn rfl rfl rfl rfl rfl (by first|rfl|simp) (by first|rfl|simp|(rw[List.map_append];rfl)) rfl ⟨VLe.refl _,VLe.refl _,trivial⟩ rfl rfl rfl ?_))|exact ac (by omega) (by omega)|exact aa (by omega) (by omega)|refine y3 ?_|refine y7 ?_ ?_|refine y4 ?_|(refine y9 ?_ ?_<;>intro h)|exact y5|fail)
  all_goals first
   |exact⟨.inl rfl,_,[],VLe.refl _,EndOK.by rfl ⟨rfl,trivial⟩ rfl rfl rfl rfl⟩
   |omega
   |exact ac (by omega) (by omega)
   |exact aa (by omega) (by omega)
 by_cases k2:k=2
 ·subst k2
  have hd: ¬dep>0:=by omega
  refine FC.walk (by kernel_rfl) Tryz.func22 rfl rfl ?_
  repeat'(first|exact y0|refine y1 ?_|refine y2 ?_ ?_|(refine y8 ?_ ?_<;>intro h<;>try(exact y6))|(refine wC ?_;first|refine wF 18 (cm c0 ?_)|refine wF 18 (cm c1 ?_)|refine wF 37 (pu cs ?_)|refine wF 56 (pu d1 ?_)|refine wF 62 (cm c2 ?_)|(refine wF 55 ?_;refine CallG.pl nS [] [r1,r2] (fun _ _=>rfl) dn rfl rfl rfl rfl rfl (by first|rfl|simp) (by first|rfl|simp|(rw[List.map_append];rfl)) rfl ⟨VLe.refl _,VLe.refl _,trivial⟩ rfl rfl rfl ?_))|exact ac (by omega) (by omega)|exact aa (by omega) (by omega)|refine y3 ?_|refine y7 ?_ ?_|refine y4 ?_|(refine y9 ?_ ?_<;>intro h)|exact y5|fail)
  all_goals first
   |exact⟨.inl rfl,_,[],VLe.refl _,EndOK.by rfl ⟨rfl,trivial⟩ rfl rfl rfl rfl⟩
   |omega
   |exact ac (by omega) (by omega)
   |exact aa (by omega) (by omega)
 by_cases k3:k=3
 ·subst k3
  have hd: ¬dep>0:=by omega
  refine FC.walk (by kernel_rfl) Tryz.func22 rfl rfl ?_
  repeat'(first|exact y0|refine y1 ?_|refine y2 ?_ ?_|(refine y8 ?_ ?_<;>intro h<;>try(exact y6))|(refine wC ?_;first|refine wF 18 (cm c0 ?_)|refine wF 18 (cm c1 ?_)|refine wF 37 (pu cs ?_)|refine wF 56 (pu d1 ?_)|refine wF 62 (cm c2 ?_)|(refine wF 55 ?_;refine CallG.pl nS [] [r1,r2] (fun _ _=>rfl) dn rfl rfl rfl rfl rfl (by first|rfl|simp) (by first|rfl|simp|(rw[List.map_append];rfl)) rfl ⟨VLe.refl _,VLe.refl _,trivial⟩ rfl rfl rfl ?_))|exact ac (by omega) (by omega)|exact aa (by omega) (by omega)|refine y3 ?_|refine y7 ?_ ?_|refine y4 ?_|(refine y9 ?_ ?_<;>intro h)|exact y5|fail)
  all_goals first
   |exact⟨.inl rfl,_,[],VLe.refl _,EndOK.by rfl ⟨rfl,trivial⟩ rfl rfl rfl rfl⟩
   |omega
   |exact ac (by omega) (by omega)
   |exact aa (by omega) (by omega)
 refine FC.walk (by kernel_rfl) Tryz.func22 rfl rfl ?_
 repeat'(first|exact y0|refine y1 ?_|refine y2 ?_ ?_|(refine y8 ?_ ?_<;>intro h<;>try(exact y6))|(refine wC ?_;first|refine wF 18 (cm c0 ?_)|refine wF 18 (cm c1 ?_)|refine wF 37 (pu cs ?_)|refine wF 56 (pu d1 ?_)|refine wF 62 (cm c2 ?_)|(refine wF 55 ?_;refine CallG.pl nS [] [r1,r2] (fun _ _=>rfl) dn rfl rfl rfl rfl rfl (by first|rfl|simp) (by first|rfl|simp|(rw[List.map_append];rfl)) rfl ⟨VLe.refl _,VLe.refl _,trivial⟩ rfl rfl rfl ?_))|exact ac (by omega) (by omega)|exact aa (by omega) (by omega)|refine y3 ?_|refine y7 ?_ ?_|refine y4 ?_|(refine y9 ?_ ?_<;>intro h)|exact y5|fail)
 all_goals first
  |exact⟨.inl rfl,_,[],VLe.refl _,EndOK.by rfl ⟨rfl,trivial⟩ rfl rfl rfl rfl⟩
  |omega
  |exact ac (by omega) (by omega)
  |exact aa (by omega) (by omega)
theorem FR (l:List Int) (hl:l.length<=20000000000000):ka l 2 200000000000:=by
 have d0:ka l 0 (1+4*300000000):=tD l hl 0 (by decide) (by decide) 300000000 (by decide) (by decide) (fun h=>absurd h (by decide));have d1:ka l 1 (1+4*(1+3*(1+4*300000000))):=tD l hl 1 (by decide) (by decide) _ (by decide) (by decide) (fun _=>vi l hl 0 _ (by decide) d0);have d2:ka l 2 (1+4*(1+3*(1+4*(1+3*(1+4*300000000))))):=tD l hl 2 (by decide) (by decide) _ (by decide) (by decide) (fun _=>vi l hl 1 _ (by decide) d1);intro i hi;obtain⟨r,i',o,h⟩:=d2 i hi;exact⟨r,i',o.le (by decide),h⟩
end Go.Proofs.YtegjgpldfgjoiaaGreatDoor
