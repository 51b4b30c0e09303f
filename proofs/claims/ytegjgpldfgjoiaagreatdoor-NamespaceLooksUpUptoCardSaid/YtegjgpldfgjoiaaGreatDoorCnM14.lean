import Derived.Test.YtegjgpldfgjoiaaGreatDoorCnM13
set_option linter.all false
namespace Go.Proofs.YtegjgpldfgjoiaaGreatDoor
open Go Ab
set_option maxRecDepth 100000
set_option maxHeartbeats 40000000
section
variable {x:Pth×Bool}
def cI:By->Nat×By
 |[]=>(0,[])
 |b::l=>if b=94 then ((cI l).1+1,(cI l).2) else (0,b::l)
theorem s8:∀ s:By,(cI s).1<=s.length/\(cI s).2.length<=s.length
 |[]=>by simp[cI]
 |b::l=>by
  have:=s8 l;unfold cI;split
  ·simp;omega
  ·simp
theorem zP {s:By} (h:cZ s [94]=true):∃ l,s=94::l:=by
 cases s with
 |nil=>simp[cZ] at h
 |cons b l=>simp[cZ] at h;exact⟨l,by rw[h]⟩
theorem El {s:By} (h: ¬cZ s [94]=true):cI s=(0,s):=by
 cases s with
 |nil=>rfl
 |cons b l=>
  unfold cI;rw[if_neg];intro e;subst e;exact h (by simp[cZ])
def z0:Pth:=⟨false,0,[]⟩
def eQ (p:Pth):Pth×Bool:=if ay p then (p,true) else (z0,false)
def dJ (root:Bool) (u:Nat) (rest:By):Pth×Bool:=
 if rest=[] then eQ ⟨root,u,[]⟩ else if 32<=rest.count 46 then (z0,false) else eQ ⟨root,u,aD 46 rest⟩
def ah (s:By):Pth×Bool:=
 if (dj s [92]).2 then dJ true 0 (dj s [92]).1 else dJ false (cI (dj s [92]).1).1 (cI (dj s [92]).1).2
theorem wS (s p:By):(dj s p).1.length<=s.length:=by
 unfold dj;split<;>simp
abbrev vR (x:Pth×Bool):V:=.tup [.agg (bX x.1),.s (.bool x.2)]
theorem gq {root:Bool} {up:Int} {segs:List By} {ok:Bool} (e:x=(⟨root,up,segs⟩,ok)):VLe (.tup [.agg [.bool root,.int .i64 up,aE segs],.s (.bool ok)]) (vR x):=e▸VLe.refl _
theorem dK (e:x=(z0,false)):VLe (.tup [.agg [.bool false,.int .i64 0,.slc none 0 (some 0)],.s (.bool false)]) (vR x):=
 e▸VLe.tup ⟨ULe.agg ⟨SLe.refl _,SLe.refl _,SLe.nil,trivial⟩,ULe.s (SLe.refl _),trivial⟩
theorem tQ {root:Bool} {up:Int} {ok:Bool} (e:x=(⟨root,up,[]⟩,ok)):VLe (.tup [.agg [.bool root,.int .i64 up,.slc none 0 (some 0)],.s (.bool ok)]) (vR x):=
 e▸VLe.tup ⟨ULe.agg ⟨SLe.refl _,SLe.refl _,SLe.nil,trivial⟩,ULe.s (SLe.refl _),trivial⟩
theorem fF (s:By) (hl:s.length<9223372036854775807):FC Tryz.prog 48 [sV s] 0 [] (vR (ah s)) 0 []:=by
 have hcp:=Di s [92];have hcl:=wS s [92];unfold ah;generalize dj s [92]=c at*;obtain⟨r0,rooted⟩:=c;simp only at hcp hcl |-;refine wW Tryz.func48 ?_;cases rooted
 ·
  repeat'(first|exact y0|refine y1 ?_|refine y2 ?_ ?_|refine y4 λh=>?_|refine wX 89 (pu hcp ?_)|refine y3 ?_|exact y5|fail)
  refine Ex.inv (σ:=Nat×By) (λx=>[(5,sV x.2)]) (λx=>[(0,some {cells:=[.bool false,.int .i64 0,.slc none 0 (some 0)],ty:=99}),(1,some {cells:=[.bool false,.int .i64 (x.1:Int),.slc none 0 (some 0)],ty:=99})])
   (λx=>x.1+x.2.length<=s.length/\(cI r0).1=x.1+(cI x.2).1/\(cI r0).2=(cI x.2).2) (λx=>x.2.length) (0,r0) rfl (λ_=>rfl) ⟨by simpa using hcl,an,rfl⟩ aV ⟨rfl,rfl,trivial⟩ ?_
  rintro⟨u,rest⟩ ⟨h1,h2,h3⟩;simp only at h1 h2 h3 |-;by_cases hp:cZ rest [94]=true
  ·obtain⟨l,rfl⟩:=zP hp
   simp only[Z04] at h1
   have hu:cI (94::l)=((cI l).1+1,(cI l).2):=by simp[cI]
   rw[hu] at h2 h3;have hpre:=uI (94::l) [94];rw[hp] at hpre
   repeat'(first|exact y0|refine y1 ?_|refine y2 ?_ ?_|refine y4 λh=>?_|refine wX 90 (bo hpre ?_)|refine y3 ?_|exact y5|fail)
   ·simp
   ·refine LoopR.same (u+1,l) ⟨?_,?_,?_⟩ ?_ rfl aV ⟨rfl,rfl,trivial⟩ rfl rfl ac
    ·simp only;omega
    ·simp only;omega
    ·simp only[h3]
    ·simp only[Z04];omega
  ·have hup:=El hp
   rw[hup] at h2 h3
   have hpf:cZ rest [94]=false:=by simpa using hp
   have hpre:=uI rest [94];rw[hpf] at hpre;rw[h2,h3];simp only[Z0p]
   repeat'(first|exact y0|refine y1 ?_|refine y2 ?_ ?_|refine y4 λh=>?_|refine wX 90 (bo hpre ?_)|refine wX 91 (pu (sm _ _) ?_)|(refine wX 92 ?_;refine CallG.pu (xI _ _ aa aa) rfl rfl rfl rfl ?_)|refine wX 93 (bo (eF _ _ _) ?_)|(refine wC ?_;first|refine CallG.wb (eF false u []) rfl ?_ rfl rfl ?_|fail)|exact⟨VLe.agg ⟨SLe.refl _,SLe.refl _,SLe.nil,trivial⟩,trivial⟩|refine Fin.le (.inl rfl) rfl ?_ rfl|refine y3 ?_|exact y5|fail)
   all_goals first
    |exact dK (by unfold dJ eQ;simp_all<;>omega)
    |exact gq (by unfold dJ eQ;simp_all<;>omega)
    |exact tQ (by unfold dJ eQ;simp_all<;>omega)
 ·
  have hu:cI r0=cI r0:=rfl
  repeat'(first|exact y0|refine y1 ?_|refine y2 ?_ ?_|refine y4 λh=>?_|refine wX 89 (pu hcp ?_)|refine y3 ?_|exact y5|fail)
  refine Ex.inv (σ:=Unit) (λx=>[(5,sV r0)]) (λx=>[(0,some {cells:=[.bool false,.int .i64 0,.slc none 0 (some 0)],ty:=99}),(1,some {cells:=[.bool true,.int .i64 0,.slc none 0 (some 0)],ty:=99})])
   (λx=>True) (λx=>0) () rfl (λ_=>rfl) trivial aV ⟨rfl,rfl,trivial⟩ ?_
  rintro _ _
  repeat'(first|exact y0|refine y1 ?_|refine y2 ?_ ?_|refine y4 λh=>?_|refine wX 91 (pu (sm _ _) ?_)|(refine wX 92 ?_;refine CallG.pu (xI _ _ aa aa) rfl rfl rfl rfl ?_)|refine wX 93 (bo (eF _ _ _) ?_)|(refine wC ?_;first|refine CallG.wb (eF true 0 []) rfl ?_ rfl rfl ?_|fail)|exact⟨VLe.agg ⟨SLe.refl _,SLe.refl _,SLe.nil,trivial⟩,trivial⟩|refine Fin.le (.inl rfl) rfl ?_ rfl|refine y3 ?_|exact y5|fail)
  all_goals first
   |exact dK (by unfold dJ eQ;simp_all<;>omega)
   |exact gq (by unfold dJ eQ;simp_all<;>omega)
   |exact tQ (by unfold dJ eQ;simp_all<;>omega)
end
end Go.Proofs.YtegjgpldfgjoiaaGreatDoor
