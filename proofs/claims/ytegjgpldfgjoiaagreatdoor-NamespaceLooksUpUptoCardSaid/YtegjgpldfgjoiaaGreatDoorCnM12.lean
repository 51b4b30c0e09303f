import Derived.Test.YtegjgpldfgjoiaaGreatDoorCnM11
set_option linter.all false
namespace Go.Proofs.YtegjgpldfgjoiaaGreatDoor
open Go Ab
set_option maxRecDepth 100000
set_option maxHeartbeats 40000000
section
variable {i:Nat}
def vL (i:Nat) (z:Int):Bool:=decide (65<=z/\z<=90\/z=95\/48<=z/\z<=57/\0<i)
def kv (i:Nat) (c:UInt8):Bool:=vL i (c.toNat:Int)
theorem Hq {z:Int} (h:65<=z/\z<=90\/z=95\/48<=z/\z<=57/\0<i):vL i z=true:=decide_eq_true h
theorem Hr {z:Int} (h: ¬(65<=z/\z<=90)) (h': ¬z=95) (h'': ¬(48<=z/\z<=57/\0<i)):vL i z=false:=decide_eq_false λe=>e.elim h λe=>e.elim h' h''
def aT (s:By):Bool:=decide (1<=s.length)&&decide (s.length<=4)&&(List.range s.length).all λi=>kv i (s.getD i 0)
theorem Cp {s:By} (h:i<s.length) (hc:kv i (s.getD i 0)=false):aT s=false:=by
 unfold aT
 have:(List.range s.length).all (λi=>kv i (s.getD i 0))=false:=by
  rw[List.all_eq_false];exact⟨i,by simpa using h,by simpa using hc⟩
 rw[this,Z4f]
theorem zN {s:By} (h1:1<=s.length) (h2:s.length<=4) (h:∀ i,i<s.length->kv i (s.getD i 0)=true):aT s=true:=by
 unfold aT;simp only[Z07,decide_eq_true_eq,Z0i,Z29];exact⟨⟨h1,h2⟩,h⟩
theorem nc {p:Nat->Prop} {j:Nat} (h:∀ i,i<j->p i) (hj:p j):∀ i,i<j+1->p i:=λi hi=>by
 rcases Nat.lt_or_eq_of_le (Nat.le_of_lt_succ hi) with h'|rfl
 ·exact h i h'
 ·exact hj
theorem Fp (s:By):FC Tryz.prog 157 [sV s] 0 [] (bV (aT s)) 0 []:=by
 refine wW Tryz.func157 ?_
 repeat'(first|exact y0|refine y1 ?_|refine y2 ?_ ?_|refine y4 λh=>?_|refine Fin.bool (.inl rfl) rfl ?_|refine y3 ?_|exact y5|fail)
 ·unfold aT;rw[decide_eq_false aa];rfl
 ·unfold aT;rw[decide_eq_false (p:=s.length<=4) aa];simp
 ·refine Ex.inv (σ:=Nat) (λj=>[(16,nI j)]) (λ_=>[]) (λj=>j<=s.length/\∀ i,i<j->kv i (s.getD i 0)=true) (λj=>s.length-j) 0 rfl (λ_=>rfl) ⟨Z08 _,λi hi=>by omega⟩ aV trivial ?_
  rintro j ⟨hj,hall⟩
  repeat'(first|exact y0|refine y1 ?_|refine y2 ?_ ?_|refine y4 λh=>?_|refine Fin.bool (.inl rfl) rfl ?_|refine LoopR.same (j+1) ⟨?_,?_⟩ ?_ rfl aV trivial rfl rfl (Z02 _)|refine y3 ?_|exact y5|fail)
  all_goals first
   |rfl
   |omega
   |exact ae aa aa
   |exact (Cp (i:=j) aa (Hr aa aa aa)).symm
   |(refine (zN aa aa λi hi=>hall i aa).symm)
   |exact nc hall (Hq aa)
structure Pth where
 root:Bool
 up:Int
 segs:List By
def aE (l:List By):S:=.frz (λk=>[.str (l.getD k [])]) 1 l.length
def bX (p:Pth):List S:=[.bool p.root,.int .i64 p.up,aE p.segs]
abbrev gw (p:Pth):V:=.agg (bX p)
def ay (p:Pth):Bool:=decide (0<=p.up)&& !(p.root&&decide (p.up≠0))&&decide (p.up<=32)&&decide ((p.segs.length:Int)<=32-p.up)&&p.segs.all aT&&(p.root||decide (0<p.up)||decide (0<p.segs.length))
theorem DL {l:List By} {j:Nat} (h:j<l.length) (hc:aT (l.getD j [])=false):l.all aT=false:=by
 rw[List.all_eq_false];exact⟨l[j],Z0s h,by simpa [Z00,h] using hc⟩
theorem yN {l:List By} (h:∀ i,i<l.length->aT (l.getD i [])=true):l.all aT=true:=by
 rw[Z0i];intro x hx;obtain⟨i,hi,rfl⟩:=Z2r.1 hx;have:=h i hi
 rwa [Z00,Z01 hi] at this
theorem eF (root:Bool) (up:Int) (segs:List By):FC Tryz.prog 93 [.agg [.bool root,.int .i64 up,aE segs]] 0 [] (bV (ay ⟨root,up,segs⟩)) 0 []:=by
 refine wW Tryz.func93 ?_;cases root
 all_goals
  repeat'(first|exact y0|refine y1 ?_|refine y2 ?_ ?_|refine y4 λh=>?_|refine Fin.bool (.inl rfl) rfl ?_|refine y3 ?_|exact y5|fail)
  rotate_right
  ·refine Ex.inv (σ:=Nat) (λj=>[(32,nI j)]) (λ_=>[(0,some {cells:=[.bool _,.int .i64 up,aE segs],ty:=99})]) (λj=>j<=segs.length/\∀ i,i<j->aT (segs.getD i [])=true) (λj=>segs.length-j) 0 rfl (λ_=>rfl) ⟨Z08 _,λi hi=>by omega⟩ aV ⟨rfl,trivial⟩ ?_
   rintro j ⟨hj,hall⟩
   repeat'(first|exact y0|refine y1 ?_|refine y2 ?_ ?_|refine y4 λh=>?_|refine wX 157 (bo (Fp _) ?_)|refine Fin.bool (.inl rfl) rfl ?_|refine LoopR.same (j+1) ⟨?_,?_⟩ ?_ rfl aV ⟨rfl,trivial⟩ rfl rfl ac|refine y3 ?_|exact y5|fail)
   all_goals first
    |omega
    |exact ae aa aa
    |exact nc hall (by assumption)
    |(have:=DL (l:=segs) (j:=j) aa ‹aT _=false›;unfold ay;rw[this];simp)
    |(have:=yN (l:=segs) λi hi=>hall i aa
      unfold ay;rw[this];simp;first|done|omega|exact λ_ _ _=>⟨aa,Z4u.1 aa⟩)
  all_goals first
   |exact ae aa aa
   |(unfold ay;simp;omega)
def bz (p:Pth):Bool:=p.root&&ay p
theorem xf (root:Bool) (up:Int) (segs:List By):FC Tryz.prog 94 [.agg [.bool root,.int .i64 up,aE segs]] 0 [] (bV (bz ⟨root,up,segs⟩)) 0 []:=by
 refine wW Tryz.func94 ?_;cases root
 all_goals
  repeat'(first|exact y0|refine y1 ?_|refine y2 ?_ ?_|refine y4 λh=>?_|refine wX 93 (bo (eF _ _ _) ?_)|refine Fin.bool (.inl rfl) rfl ?_|refine y3 ?_|exact y5|fail)
 all_goals simp[bz, *]
def zg (p:Pth):Bool:= !p.root&&decide (p.up=0)&&decide ((p.segs.length:Int)=1)
theorem Ho (root:Bool) (up:Int) (segs:List By):FC Tryz.prog 254 [.agg [.bool root,.int .i64 up,aE segs]] 0 [] (bV (zg ⟨root,up,segs⟩)) 0 []:=by
 refine wW Tryz.func254 ?_;cases root
 all_goals
  repeat'(first|exact y0|refine y1 ?_|refine y2 ?_ ?_|refine y4 λh=>?_|refine Fin.bool (.inl rfl) rfl ?_|refine y3 ?_|exact y5|fail)
 all_goals simp[zg, *]
 all_goals try omega
def cZ (s p:By):Bool:=decide (p.length<=s.length)&&decide (s.take p.length=p)
theorem qk (s p:By):FC Tryz.prog 152 [sV s,sV p] 0 [] (bV (cZ s p)) 0 []:=by
 refine wW Tryz.func152 ?_
 repeat'(first|exact y0|refine y1 ?_|refine y2 ?_ ?_|refine y4 λh=>?_|refine Fin.bool (.inl rfl) rfl ?_|refine y3 ?_|exact y5|fail)
 all_goals first
  |omega
  |(unfold cZ;simp[*];done)
  |(unfold cZ;simp[*];omega)
theorem uI (s p:By):FC Tryz.prog 90 [sV s,sV p] 0 [] (bV (cZ s p)) 0 []:=by
 refine wW Tryz.func90 ?_
 repeat'(first|exact y0|refine y1 ?_|refine y2 ?_ ?_|refine y4 λh=>?_|refine wX 152 (pu (qk _ _) ?_)|refine Fin.bool (.inl rfl) rfl ?_|refine y3 ?_|exact y5|fail)
 all_goals rfl
def dj (s p:By):By×Bool:=if cZ s p then (s.drop p.length,true) else (s,false)
theorem Ac (s p:By):FC Tryz.prog 151 [sV s,sV p] 0 [] (.tup [.s (.str (dj s p).1),.s (.bool (dj s p).2)]) 0 []:=by
 refine wW Tryz.func151 ?_
 repeat'(first|exact y0|refine y1 ?_|refine y2 ?_ ?_|refine y4 λh=>?_|refine wX 152 (bo (qk _ _) ?_)|refine Fin.plain (.inl rfl) rfl ?_ rfl|refine y3 ?_|exact y5|fail)
 all_goals first
  |(unfold dj;simp[*];done)
  |(unfold cZ at*;simp at*;done)
  |(unfold cZ at*;simp at*;omega)
theorem Di (s p:By):FC Tryz.prog 89 [sV s,sV p] 0 [] (.tup [.s (.str (dj s p).1),.s (.bool (dj s p).2)]) 0 []:=by
 refine wW Tryz.func89 ?_
 repeat'(first|exact y0|refine y1 ?_|refine y2 ?_ ?_|refine y4 λh=>?_|refine wX 151 (pu (Ac _ _) ?_)|refine Fin.plain (.inl rfl) rfl ?_ rfl|refine y3 ?_|exact y5|fail)
 all_goals rfl
end
end Go.Proofs.YtegjgpldfgjoiaaGreatDoor
