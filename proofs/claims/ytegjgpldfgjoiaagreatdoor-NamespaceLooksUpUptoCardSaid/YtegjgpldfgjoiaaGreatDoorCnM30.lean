import Derived.Test.YtegjgpldfgjoiaaGreatDoorCnM17
import Derived.Test.YtegjgpldfgjoiaaGreatDoorCnM24
import Derived.Test.YtegjgpldfgjoiaaGreatDoorCnM25
import Derived.Test.YtegjgpldfgjoiaaGreatDoorCnM21
import Derived.Test.YtegjgpldfgjoiaaGreatDoorCnM27
import Derived.Test.YtegjgpldfgjoiaaGreatDoorCnM22
set_option linter.all false
namespace Go.Proofs.YtegjgpldfgjoiaaGreatDoor
open Go Ab
set_option maxRecDepth 100000
set_option maxHeartbeats 40000000
def iP (s:By) (i:Nat):Nat:=i+((s.drop i).takeWhile kU).length
theorem m_ (s:By) (i:Nat) (hi:i<=s.length) (hl0:s.length<9223372036854775807):FC Tryz.prog 166 [sV s,nI i] 0 [] (nI (iP s i:Nat)) 0 []:=by
 refine wW Tryz.func166 ?_
 repeat'(first|exact y0|refine y1 ?_|refine y2 ?_ ?_|refine y4 λh=>?_|refine Unr.next' rfl ?_|refine y3 ?_|exact y5|fail)
 refine Ex.inv (σ:=Nat) (λj=>[(1,nI j)]) (λ_=>[]) (λj=>j<=s.length/\iP s i=j+((s.drop j).takeWhile kU).length) (λj=>s.length-j) i rfl (λ_=>rfl) ⟨hi,rfl⟩ aV trivial ?_;rintro j ⟨hj,hE⟩
 rcases Z0a j s.length with h|h
 ·rw[Gn h] at hE
  have hl:=eK ((s.getD j 0).toNat:Int);have hd:=kY ((s.getD j 0).toNat:Int);rw[show kU (s.getD j 0)=(fI ((s.getD j 0).toNat:Int)||jT ((s.getD j 0).toNat:Int)) from rfl] at hE;generalize fI ((s.getD j 0).toNat:Int)=b1 at*;generalize jT ((s.getD j 0).toNat:Int)=b2 at*
  cases b1<;>cases b2<;>simp only[Z4m,Z41,if_true,Z3e,Z0l,if_false,Z04,Z0e] at hE
  all_goals
   repeat'(first|exact y0|refine y1 ?_|refine y2 ?_ ?_|refine y4 λh=>?_|refine wX 165 (bo hl ?_)|refine wX 203 (bo hd ?_)|refine Unr.next' rfl ?_|refine Fin.int (.inl rfl) rfl ?_|refine LoopR.same (j+1) ⟨?_,?_⟩ ?_ rfl aV trivial rfl rfl (Z02 _)|refine y3 ?_|exact y5|fail)
   all_goals first
    |omega
    |exact ae aa aa
    |(simp only;omega)
 ·rw[Z10 h] at hE
  simp only[List.takeWhile_nil,Z0e] at hE
  repeat'(first|exact y0|refine y1 ?_|refine y2 ?_ ?_|refine y4 λh=>?_|refine Unr.next' rfl ?_|refine Fin.int (.inl rfl) rfl ?_|refine y3 ?_|exact y5|fail)
  all_goals omega
def Gy (c:UInt8):Bool:=decide (c=32\/c=9\/c=13\/c=10)
def I6 (s:By) (i:Nat):Nat:=i+((s.drop i).takeWhile Gy).length
theorem I5 {s:By} {j:Nat} (hj:j<s.length):(s.drop j).takeWhile Gy=if Gy (s.getD j 0) then s.getD j 0::(s.drop (j+1)).takeWhile Gy else []:=by
 rw[Z0k hj,List.takeWhile_cons,Z00,Z01 hj];rfl
theorem A9 (s:By) (i:Nat) (hi:i<=s.length) (hl0:s.length<1000000000) (hn:∀ j,s.getD j 0≠47):FC Tryz.prog 135 [sV s,nI i] 0 [] (.tup [.s (.int .i64 (I6 s i:Nat)),.s (.bool true)]) 0 []:=by
 refine wW Tryz.func135 ?_
 repeat'(first|exact y0|refine y1 ?_|refine y2 ?_ ?_|refine y4 λh=>?_|refine Unr.next' rfl ?_|refine y3 ?_|exact y5|fail)
 refine Ex.inv (σ:=Nat) (λj=>[(1,nI j)]) (λ_=>[]) (λj=>j<=s.length/\I6 s i=j+((s.drop j).takeWhile Gy).length) (λj=>s.length-j) i rfl (λ_=>rfl) ⟨hi,rfl⟩ aV trivial ?_;rintro j ⟨hj,hE⟩
 rcases Z0a j s.length with h|h
 ·rw[I5 h] at hE
  have hc:=hn j
  obtain⟨c,hcc⟩:∃ c,s.getD j 0=c:=⟨_,rfl⟩
  rw[hcc] at hE hc
  have hc':((s.getD j 0).toNat:Int)=(c.toNat:Int):=by rw[hcc]
  have h47: ¬c.toNat=47:=λe=>hc (Z39.1 e)
  by_cases hs:Gy c=true
  ·rw[if_pos hs,Z04] at hE
   have hs:c.toNat=32\/c.toNat=9\/c.toNat=13\/c.toNat=10:=by
    unfold Gy at hs;simp only[decide_eq_true_eq] at hs
    rcases hs with e|e|e|e<;>subst e<;>simp
   repeat'(first|exact y0|refine y1 ?_|refine y2 ?_ ?_|refine y4 λh=>?_|refine Unr.next' rfl ?_|refine y3 ?_|exact y5|fail)
   all_goals try exact y7
   all_goals exact LoopR.same (j+1) ⟨aa,aa⟩ aa rfl ⟨VLe.of_eq (congrArg nI (by push_cast;omega)),trivial⟩ trivial rfl rfl (Z02 _)
  ·rw[if_neg hs,Z0e] at hE
   have hs: ¬c.toNat=32/\ ¬c.toNat=9/\ ¬c.toNat=13/\ ¬c.toNat=10:=by
    unfold Gy at hs;simp only[decide_eq_true_eq,not_or] at hs;obtain⟨a1,a2,a3,a4⟩:=hs;exact⟨λe=>a1 (Z39.1 e),λe=>a2 (Z39.1 e),λe=>a3 (Z39.1 e),λe=>a4 (Z39.1 e)⟩
   rw[hE,Z0p]
   repeat'(first|exact y0|refine y1 ?_|refine y2 ?_ ?_|refine y4 λh=>?_|refine Unr.next' rfl ?_|refine y3 ?_|exact y5|fail)
   all_goals try exact y7
   all_goals exact Fin.plain (.inl rfl) rfl rfl rfl
 ·rw[Z10 h] at hE
  simp only[List.takeWhile_nil,Z0e] at hE;rw[hE,Z0p]
  repeat'(first|exact y0|refine y1 ?_|refine y2 ?_ ?_|refine y4 λh=>?_|refine Unr.next' rfl ?_|refine y3 ?_|exact y5|fail)
  all_goals exact Fin.plain (.inl rfl) rfl rfl rfl
theorem zG (s:By) (i:Nat) (hi:i<s.length) (hl0:s.length<1000000000) (h1:fI ((s.getD i 0).toNat:Int)=true) (h2:aT ((s.take (iP s i)).drop i)=true) (h3:iP s i<s.length) (h4:s.getD (iP s i) 0≠46):FC Tryz.prog 202 [sV s,nI i] 0 [] (nI (iP s i:Nat)) 0 []:=by
 have hl:=eK ((s.getD i 0).toNat:Int);rw[h1] at hl;have hid:=m_ s i aa aa
 have hc:(97<=((s.getD i 0).toNat:Int)/\((s.getD i 0).toNat:Int)<=122\/65<=((s.getD i 0).toNat:Int)/\((s.getD i 0).toNat:Int)<=90\/((s.getD i 0).toNat:Int)=95):=by unfold fI at h1;simpa using h1
 have h46: ¬((s.getD (iP s i) 0).toNat:Int)=46:=λe=>h4 (Z39.1 (by have:(46:UInt8).toNat=46:=rfl;omega))
 have hle:i<=iP s i:=Z1o _ _;have hsg:=jb ((s.take (iP s i)).drop i) (by simp only[Z19,Z1u];omega);rw[h2] at hsg;generalize iP s i=k at*;refine wW Tryz.func202 ?_
 repeat'(first|exact y0|refine y1 ?_|refine y2 ?_ ?_|refine y4 λh=>?_|refine wX 165 (bo hl ?_)|refine wX 166 (pu hid ?_)|refine wX 99 (bo hsg ?_)|refine Unr.next' rfl ?_|refine Ex.unroll 1 ?_|refine y3 ?_|exact y5|fail)
 all_goals try exact y7
 all_goals exact Fin.plain (.inl rfl) rfl rfl rfl
structure Tk where
 kind:Int
 int:Int
 str:By
 pos:Int
def Ea (t:Tk):List S:=[.int .i64 t.kind,.int .u64 t.int,.str t.str,.int .i64 t.pos]
def IL (t:Tk) (k:Int):V:=.tup [.agg (Ea t),.s (.int .i64 k)]
def vS (z:Int):Int:=if z=40 then 5 else if z=41 then 6 else if z=123 then 7 else if z=125 then 8 else if z=44 then 9 else 0
theorem Je (z:Int):FC Tryz.prog 206 [n8 z] 0 [] (nI (vS z)) 0 []:=by
 unfold vS;refine wW Tryz.func206 ?_
 repeat'(first|exact y0|refine y1 ?_|refine y2 ?_ ?_|refine y4 λh=>?_|refine Unr.next' rfl ?_|refine Fin.int (.inl rfl) rfl ?_|refine y3 ?_|exact y5|fail)
 all_goals (repeat' split)<;>first|rfl|omega|contradiction
theorem Fm (s:By) (i:Nat) (hi:i<s.length) (hl0:s.length<1000000000) (h1:fI ((s.getD i 0).toNat:Int)=true) (h2:pF ((s.take (iP s i)).drop i)=true) (h3:iP s i<=i+32) (h4:iP s i<=s.length):
 FC Tryz.prog 136 [sV s,nI i] 0 [] (IL ⟨2,0,(s.take (iP s i)).drop i,i⟩ (iP s i:Nat)) 0 []:=by
 have hl:=eK ((s.getD i 0).toNat:Int);rw[h1] at hl;have hid:=m_ s i aa aa;have hle:i<=iP s i:=Z1o _ _;have hlo:=rI ((s.take (iP s i)).drop i) (by simp only[Z19,Z1u];omega);rw[h2] at hlo;generalize iP s i=k at*;refine wW Tryz.func136 ?_
 repeat'(first|exact y0|refine y1 ?_|refine y2 ?_ ?_|refine y4 λh=>?_|refine wX 165 (bo hl ?_)|refine wX 166 (pu hid ?_)|refine wX 167 (bo hlo ?_)|refine Unr.next' rfl ?_|refine y3 ?_|exact y5|fail)
 all_goals try exact y7
 all_goals exact Fin.plain (.inl rfl) rfl rfl rfl
theorem Fl (s:By) (i:Nat) (hi:i<s.length) (hl0:s.length<1000000000) (h1:fI ((s.getD i 0).toNat:Int)=true) (h2:pF ((s.take (iP s i)).drop i)=false) (h5:aT ((s.take (iP s i)).drop i)=true) (h3:iP s i<s.length) (h4:s.getD (iP s i) 0≠46):
 FC Tryz.prog 136 [sV s,nI i] 0 [] (IL ⟨1,0,(s.take (iP s i)).drop i,i⟩ (iP s i:Nat)) 0 []:=by
 have hne:=zG s i hi hl0 h1 h5 h3 h4;have hl:=eK ((s.getD i 0).toNat:Int);rw[h1] at hl;have hid:=m_ s i aa aa;have hle:i<=iP s i:=Z1o _ _;have hlo:=rI ((s.take (iP s i)).drop i) (by simp only[Z19,Z1u];omega);rw[h2] at hlo;generalize iP s i=k at*;refine wW Tryz.func136 ?_
 repeat'(first|exact y0|refine y1 ?_|refine y2 ?_ ?_|refine y4 λh=>?_|refine wX 165 (bo hl ?_)|refine wX 166 (pu hid ?_)|refine wX 167 (bo hlo ?_)|refine wX 202 (pu hne ?_)|refine Unr.next' rfl ?_|refine y3 ?_|exact y5|fail)
 all_goals try exact y7
 all_goals exact Fin.plain (.inl rfl) rfl rfl rfl
theorem Fn (s:By) (i:Nat) (v:Int) (hi:i<s.length) (hl0:s.length<1000000000) (h1:fI ((s.getD i 0).toNat:Int)=false) (h2:jT ((s.getD i 0).toNat:Int)=true) (h4:iP s i<=s.length) (hv:FC Tryz.prog 204 [sV ((s.take (iP s i)).drop i)] 0 [] (.tup [.s (.int .u64 v),.s (.bool true)]) 0 []):
 FC Tryz.prog 136 [sV s,nI i] 0 [] (IL ⟨3,v,[],i⟩ (iP s i:Nat)) 0 []:=by
 have hl:=eK ((s.getD i 0).toNat:Int);rw[h1] at hl;have hd:=kY ((s.getD i 0).toNat:Int);rw[h2] at hd
 have hc:48<=((s.getD i 0).toNat:Int)/\((s.getD i 0).toNat:Int)<=57:=by unfold jT at h2;simpa using h2
 have hid:=m_ s i aa aa;have hle:i<=iP s i:=Z1o _ _;generalize iP s i=k at*;refine wW Tryz.func136 ?_
 repeat'(first|exact y0|refine y1 ?_|refine y2 ?_ ?_|refine y4 λh=>?_|refine wX 165 (bo hl ?_)|refine wX 203 (bo hd ?_)|refine wX 166 (pu hid ?_)|refine wX 204 (pu hv ?_)|refine Unr.next' rfl ?_|refine y3 ?_|exact y5|fail)
 all_goals try exact y7
 all_goals exact Fin.plain (.inl rfl) rfl rfl rfl
theorem Fk (s:By) (i:Nat) (c:Int) (hi:i<s.length) (hl0:s.length<1000000000) (hc:((s.getD i 0).toNat:Int)=c) (h0:c=40\/c=41\/c=123\/c=125\/c=44):
 FC Tryz.prog 136 [sV s,nI i] 0 [] (IL ⟨vS c,0,[],i⟩ ((i:Int)+1)) 0 []:=by
 have hl:=eK ((s.getD i 0).toNat:Int);rw[show fI ((s.getD i 0).toNat:Int)=false by unfold fI;rw[hc];simp;omega] at hl;have hd:=kY ((s.getD i 0).toNat:Int);rw[show jT ((s.getD i 0).toNat:Int)=false by unfold jT;rw[hc];simp;omega] at hd;have hp:=Je ((s.getD i 0).toNat:Int);rw[hc] at hp
 have hpz:0<vS c:=by unfold vS;repeat' split<;>omega
 generalize vS c=k at*;refine wW Tryz.func136 ?_
 repeat'(first|exact y0|refine y1 ?_|refine y2 ?_ ?_|refine y4 λh=>?_|refine wX 165 (bo hl ?_)|refine wX 203 (bo hd ?_)|(refine wX 206 ?_;refine CallG.we hp rfl ⟨VLe.of_eq (congrArg (λz=>V.s (S.int .u8 z)) hc),trivial⟩ rfl rfl rfl ?_)|refine Unr.next' rfl ?_|refine y3 ?_|exact y5|fail)
 all_goals try exact y7
 all_goals exact Fin.plain (.inl rfl) rfl rfl rfl
inductive TokS (s:By):Nat->List Tk->Prop
 |nil {i:Nat} (hi:i<=s.length) (hs:I6 s i=s.length):TokS s i []
 |cons {i j k:Nat} {t:Tk} {ts:List Tk} (hi:i<=s.length) (hj:I6 s i=j) (hlt:j<s.length) (hit:FC Tryz.prog 136 [sV s,nI j] 0 [] (IL t (k:Nat)) 0 []) (r:TokS s k ts):TokS s i (t::ts)
def mA:Tk:=⟨0,0,[],0⟩
def I0 (ts:List Tk):S:=.frz (λk=>Ea (ts.getD k mA)) 4 ts.length
theorem Eu {a:Tk} {j:Nat} {x:S} (h:(Ea a)[j]? =some x):bE x=true:=by
 rcases j with _|_|_|_|j
 ·cases h;rfl
 ·cases h;rfl
 ·cases h;rfl
 ·cases h;rfl
 ·simp[Ea] at h
theorem xB:∀ l:List Tk,(l.flatMap Ea).length=l.length*4
 |[]=>rfl
 |r::t=>by rw[Z0g,Z03,xB t,Z04];show 4+_=_;omega
theorem Ht (s:By) (ts:List Tk) (hT:TokS s 0 ts) (hl0:s.length<=65536) (hn:∀ j,s.getD j 0≠47) (hts:ts.length<=100000):FC Tryz.prog 80 [sV s] 0 [] (.tup [.s (I0 ts),.s (.int .i64 0),.s (.int .i64 0)]) 0 []:=by
 have hsz:(Tryz.prog.types[154]).size=4:=by kernel_rfl
 have hby:(Tryz.prog.types[154]).bytes=40:=by kernel_rfl
 refine wW Tryz.func80 ?_
 repeat'(first|exact y0|refine y1 ?_|refine y2 ?_ ?_|refine y4 λh=>?_|refine Unr.next' rfl ?_|refine y3 ?_|exact y5|fail)
 refine Ex.set 5 (.s (.row 0 1 0)) (VLe.s SLe.nilrow) rfl (Ex.upN (n':=2) aa ?_);refine Ex.inv (σ:=List Tk×Nat×List Tk) (λq=>[(5,.s (.row 0 1 q.1.length)),(6,nI q.2.1)]) (λq=>[(0,eI 154 1 4 (q.1.flatMap Ea))]) (λq=>q.1++q.2.2=ts/\TokS s q.2.1 q.2.2) (λq=>q.2.2.length) ([],0,ts) rfl (λ_=>rfl) ⟨rfl,hT⟩ aV trivial ?_;rintro⟨D,i,r⟩ ⟨h1,h2⟩;simp only at h1 h2 |-
 cases h2 with
 |nil hi hs=>
  rw[Z0u] at h1;subst h1;have hsk:=A9 s i hi aa hn;rw[hs] at hsk
  repeat'(first|exact y0|refine y1 ?_|refine y2 ?_ ?_|refine y4 λh=>?_|refine wX 135 (pu hsk ?_)|refine Unr.next' rfl ?_|refine Ex.fzR 2 Ea 4 mA D rfl rfl (λ_=>rfl) (λa j x h=>Eu h) ac rfl rfl ?_|refine Fin.le (.inl rfl) rfl (VLe.refl _) rfl|refine y3 ?_|exact y5|fail)
 | @cons _ j k t ts' hi hj hlt hit r=>
   have hlen:D.length+(ts'.length+1)=ts.length:=by rw[<-h1];simp
   have hsk:=A9 s i hi aa hn;rw[hj] at hsk
   repeat'(first|exact y0|refine y1 ?_|refine y2 ?_ ?_|refine y4 λh=>?_|refine wX 135 (pu hsk ?_)|refine wX 136 (pu hit ?_)|refine Unr.next' rfl ?_|refine RegX.apr (i:=0) (g:=1) (m:=D.length) (w:=4) (cs:=D.flatMap Ea) (foot:=[3]) (k:=1) (add:=Ea t) rfl rfl (xB D) rfl rfl rfl rfl rfl rfl rfl hsz ac rfl ⟨Z02 _,rfl⟩ ac (by simp[Ea]) rfl (by rw[hby];omega) aa rfl ?_|refine y3 ?_|exact y5|fail)
   all_goals try exact y7
   refine LoopR.move (D++[t],k,ts') ⟨by simpa using h1,r⟩ (by simp only[Z04];omega) [4,5] rfl ?_ ?_ ?_
   ·repeat' (first|exact VLe.refl _|exact VLe.any _|exact Z0o|exact VLe.of_eq (congrArg nI an)|(refine VLe.of_eq (congrArg V.s (?_:S.row 4 5 _=S.row 4 5 _));simp;done)|refine⟨?_,?_⟩)
   ·refine MemP.op ?_ trivial
    rw[Z0r,Z0g,List.flatMap_nil,Z0u];rfl
   ·generalize List.flatMap _ _=cg
    cases cg<;>rfl
abbrev nB (g:Nat) (D:List Nd):Option Bl:=eI 49 (g+1) 4 (D.flatMap ndC)
abbrev rp (a b:Nat) (ts:List Tk) (i m:Nat):Bl:={cells:=[I0 ts,.int .i64 (i:Nat),.row a b m,.int .i64 (-1)],ty:=151}
abbrev HA (ts:List Tk) (i:Nat) (out:List Nd):Hp:=[(0,some (rp 1 2 ts i out.length)),(1,nB 1 out)]
abbrev tS (ts:List Tk) (i:Nat) (out:List Nd):Hp:=[(0,some (rp 3 4 ts i out.length)),(1,none),(3,nB 3 out)]
abbrev IP (ts:List Tk) (i m:Nat):Hp:=[(0,some (rp 1 2 ts i m))]
abbrev Ee (ts:List Tk) (i:Nat):Int:=(ts.getD i mA).kind
theorem kG:∀ l:List Nd,(l.flatMap ndC).length=l.length*4
 |[]=>rfl
 |r::t=>by rw[Z0g,Z03,kG t,Z04];show 4+_=_;omega
theorem gr {ts:List Tk} {i:Nat} {out:List Nd}:eV 3 (HA ts i out)=true:=by
 unfold HA nB;generalize List.flatMap ndC out=cg
 cases cg<;>rfl
theorem HH {ts:List Tk} {i:Nat} {out:List Nd}:eV 5 (tS ts i out)=true:=by
 unfold tS nB;generalize List.flatMap ndC out=cg
 cases cg<;>rfl
section
variable {P:Program} {fn:Func} {env:List V} {ts:List Tk} {i i':Nat} {out out':List Nd} {v v':V} {e:Exit} {M:Hp} {m:Nat}
theorem Fin.p5 (c:Nat) (v':V) (hx:e=.ret\/e=.normal) (h0:lk M 0=some (rp c (c+1) ts i out.length)) (h1:lk M c=nB c out) (hr:fU P fn env M=some (bW (rn (List.range 3++[c,c+1]) 0) v')) (hv:VLe v' v) (hk:fp 5 v'=true) (hn:ce (List.range 3++[c,c+1])=true):Fin P fn 3 v 5 (tS ts i out) e env m M:=
 ⟨hx,v',[c,c+1],hv,EndOK.by hr ⟨h0,MemP.op h1 trivial⟩ hk HH rfl hn⟩
end
theorem ww (ts:List Tk) (i m:Nat) (hts:ts.length<=100000):FC Tryz.prog 142 [.s (.ptr (some (0,0)))] 3 (IP ts i m) (nI (Ee ts i)) 3 (IP ts i m):=by
 refine wW Tryz.func142 ?_;by_cases h:i<ts.length
 ·
  repeat'(first|exact y0|refine y1 ?_|refine y2 ?_ ?_|refine y4 λh=>?_|refine y3 ?_|exact y5|fail)
  all_goals try exact y7
  exact bh
 ·have e:Ee ts i=0:=by rw[Ee,Z00,Z0b aa];rfl
  rw[e]
  repeat'(first|exact y0|refine y1 ?_|refine y2 ?_ ?_|refine y4 λh=>?_|refine y3 ?_|exact y5|fail)
  all_goals try exact y7
  exact bh
theorem nM (ts:List Tk) (i m:Nat) (k:Int) (hts:ts.length<=100000) (hi:i<ts.length) (hk:Ee ts i=k):FC Tryz.prog 209 [.s (.ptr (some (0,0))),nI k] 3 (IP ts i m) .any 3 (IP ts (i+1) m):=by
 have hkd:=ww ts i m hts;rw[hk] at hkd;refine wW Tryz.func209 ?_
 repeat'(first|exact y0|refine y1 ?_|refine y2 ?_ ?_|refine y4 λh=>?_|refine wX 142 (cf [0,1,2] hkd ?_)|refine y3 ?_|exact y5|fail)
 all_goals try exact y7
 exact⟨.inr rfl,.tup [],[],VLe.any _,EndOK.by rfl ⟨rfl,trivial⟩ rfl rfl rfl rfl⟩
theorem DM (ts:List Tk) (i:Nat) (out:List Nd) (x:Nd) (ho:out.length<=100000):FC Tryz.prog 140 [.s (.ptr (some (0,0))),Ju x] 3 (HA ts i out) (nI out.length) 5 (tS ts i (out++[x])):=by
 have hsz:(Tryz.prog.types[49]).size=4:=by kernel_rfl
 have hby:(Tryz.prog.types[49]).bytes=40:=by kernel_rfl
 refine wW Tryz.func140 ?_
 repeat'(first|exact y0|refine y1 ?_|refine y2 ?_ ?_|refine y4 λh=>?_|refine RegX.apr (i:=1) (g:=2) (m:=out.length) (w:=4) (cs:=out.flatMap ndC) (foot:=[4]) (k:=1) (add:=ndC x) rfl rfl (kG out) rfl rfl rfl rfl rfl rfl rfl hsz ac rfl ⟨Z02 _,rfl⟩ ac (by simp[ndC]) rfl (by rw[hby];omega) aa rfl ?_|refine y3 ?_|exact y5|fail)
 all_goals try exact y7
 refine Fin.p5 5 _ (.inl rfl) ?_ ?_ rfl (VLe.of_eq (congrArg nI (by push_cast;omega))) rfl rfl
 ·rw[Z03];rfl
 ·rw[nB,Z0r,Z0g,List.flatMap_nil,Z0u];rfl
def qG (s:By):List Rw->Rw×Bool
 |[]=>(dR,false)
 |r::t=>if r.2.1=s then (r,true) else qG s t
theorem AE (s:By):FC Tryz.prog 208 [sV s] 0 [] (.tup [.agg (vz (qG s rowsL).1),.s (.bool (qG s rowsL).2)]) 0 []:=by
 refine wW Tryz.func208 ?_;have hl:rowsL.length=56:=rfl;generalize hR:qG s rowsL=R
 repeat'(first|exact y0|refine y1 ?_|refine y2 ?_ ?_|refine y4 λh=>?_|refine wX 210 (pu Bi ?_)|refine y3 ?_|exact y5|fail)
 generalize rowsL=rl at*;refine Ex.inv (σ:=Nat) (λj=>[(5,nI j)]) (λ_=>[(0,some {cells:=[.int .i64 0,.str [],.str []],ty:=207})]) (λj=>j<=56/\qG s (rl.drop j)=R) (λj=>56-j) 0 rfl (λ_=>rfl) ⟨Z08 _,hR⟩ aV ⟨rfl,trivial⟩ ?_;rintro j ⟨hj,hI⟩;by_cases h:j<56
 ·have hd:rl.drop j=rl.getD j dR::rl.drop (j+1):=by
   rw[Z0k aa,Z00,Z01 aa];rfl
  rw[hd] at hI;simp only[qG] at hI;by_cases ho:(rl.getD j dR).2.1=s
  ·rw[if_pos ho] at hI
   subst hI
   repeat'(first|exact y0|refine y1 ?_|refine y2 ?_ ?_|refine y4 λh=>?_|refine Fin.plain (.inl rfl) rfl ?_ rfl|refine y3 ?_|exact y5|fail)
   all_goals rfl
  ·rw[if_neg ho] at hI
   repeat'(first|exact y0|refine y1 ?_|refine y2 ?_ ?_|refine y4 λh=>?_|refine y3 ?_|exact y5|fail)
   refine LoopR.same (j+1) ⟨aa,hI⟩ aa rfl aV ⟨rfl,trivial⟩ rfl rfl ac
 ·rw[Z10 aa] at hI
  subst hI
  repeat'(first|exact y0|refine y1 ?_|refine y2 ?_ ?_|refine y4 λh=>?_|refine Fin.plain (.inl rfl) rfl ?_ rfl|refine y3 ?_|exact y5|fail)
  all_goals rfl
theorem BZ (s w:By) (n:Int) (hs:s.length<=1000) (hw:w.length<=1000) (h: ¬(s.length=w.length+1/\s.take w.length=w)):FC Tryz.prog 207 [sV s,sV w,nI n] 0 [] (nI (-1)) 0 []:=by
 refine wW Tryz.func207 ?_;by_cases h1:s.length=w.length+1
 ·have h2: ¬s.take w.length=w:=λe=>h ⟨h1,e⟩
  repeat'(first|exact y0|refine y1 ?_|refine y2 ?_ ?_|refine y4 λh=>?_|refine Fin.int (.inl rfl) rfl rfl|refine y3 ?_|exact y5|fail)
  all_goals try exact y7
 ·
  repeat'(first|exact y0|refine y1 ?_|refine y2 ?_ ?_|refine y4 λh=>?_|refine Fin.int (.inl rfl) rfl rfl|refine y3 ?_|exact y5|fail)
  all_goals try exact y7
abbrev qF (ts:List Tk) (i m:Nat) (x:Nd):Prop:=FC Tryz.prog 137 [.s (.ptr (some (0,0)))] 3 (IP ts i m) (Ju x) 3 (IP ts i m)
theorem Fc (ts:List Tk) (i m:Nat) (hts:ts.length<=100000) (hi:i<ts.length) (hk:(ts.getD i mA).kind=3):qF ts i m ⟨1,(ts.getD i mA).int,[],0⟩:=by
 refine wW Tryz.func137 ?_
 repeat'(first|exact y0|refine y1 ?_|refine y2 ?_ ?_|refine y4 λh=>?_|refine y3 ?_|exact y5|fail)
 all_goals try exact y7
 all_goals exact bh
theorem Fa (ts:List Tk) (i m:Nat) (hts:ts.length<=100000) (hi:i<ts.length) (hk:(ts.getD i mA).kind=1) (hl:(ts.getD i mA).str.length<=1000) (hp:(ah (ts.getD i mA).str).2=true):qF ts i m ⟨3,0,(ts.getD i mA).str,0⟩:=by
 have hpr:=dU (ts.getD i mA).str aa
 rcases hq:ah (ts.getD i mA).str with ⟨q,ok⟩
 rw[hq] at hpr hp;simp only at hp;subst hp;refine wW Tryz.func137 ?_
 repeat'(first|exact y0|refine y1 ?_|refine y2 ?_ ?_|refine y4 λh=>?_|refine wX 51 (pu hpr ?_)|refine y3 ?_|exact y5|fail)
 all_goals try exact y7
 all_goals exact bh
theorem Fb (ts:List Tk) (i m:Nat) (hts:ts.length<=100000) (hi:i<ts.length) (hk:(ts.getD i mA).kind=2) (hl:(ts.getD i mA).str.length<=1000) (h1: ¬((ts.getD i mA).str.length=6/\(ts.getD i mA).str.take 5=[76,111,99,97,108])) (h2: ¬((ts.getD i mA).str.length=4/\(ts.getD i mA).str.take 3=[65,114,103])) (op:Int) (ho:(qG (ts.getD i mA).str rowsL).1.1=op):qF ts i m ⟨op,0,[],0⟩:=by
 have hw:=AE (ts.getD i mA).str;have hn1:=BZ (ts.getD i mA).str [76,111,99,97,108] 8 hl ac h1;have hn2:=BZ (ts.getD i mA).str [65,114,103] 7 hl ac h2;subst ho;generalize qG (ts.getD i mA).str rowsL=r at*;refine wW Tryz.func137 ?_
 repeat'(first|exact y0|refine y1 ?_|refine y2 ?_ ?_|refine y4 λh=>?_|refine wX 208 (pu hw ?_)|refine wX 207 (pu hn1 ?_)|refine wX 207 (pu hn2 ?_)|refine y3 ?_|exact y5|fail)
 all_goals try exact y7
 all_goals exact bh
abbrev i7 (ts:List Tk) (k:Int) (i:Nat) (out:List Nd) (i':Nat) (out':List Nd):Prop:=FC Tryz.prog 81 [.s (.ptr (some (0,0))),n8 k] 3 (HA ts i out) .any 5 (tS ts i' out')
theorem qc (ts:List Tk) (k:Int) (i:Nat) (out:List Nd) (x:Nd) (hts:ts.length<=100000) (hi:i<ts.length) (ho:out.length<=100000) (hx:qF ts i out.length x) (hop:x.op=1\/x.op=3) (hk:k≠83/\k≠101) (hp:bn k x.op=true) (hs:k=115->aT x.str=true) (hl:x.str.length<=1000):i7 ts k i out (i+1) (out++[x]):=by
 have hpe:=nX k x.op;rw[hp] at hpe;have hsi:=th x.str aa;have had:=DM ts (i+1) out x ho;have hol:(out++[x]).length=out.length+1:=an;obtain⟨h83,h101⟩:=hk;obtain⟨op,int,str,kids⟩:=x;simp only at hop hl hs hpe hsi;by_cases h115:k=115
 ·rw[hs h115] at hsi
  rcases hop with rfl|rfl
  all_goals
   refine wW Tryz.func81 ?_
   repeat'(first|exact y0|refine y1 ?_|refine y2 ?_ ?_|(refine y4 λh=>?_;try(first|(first|contradiction|(exfalso;omega)|(exfalso;simp at h;done))|exact y6))|refine wX 87 (bo hpe ?_)|refine wX 138 (bo hsi ?_)|refine wX 137 (cf [0,1,2] hx ?_)|(refine wX 140 ?_;refine iq [0,1,2] had ?_ (wr:=[(0,some (rp 4 5 ts (i+1) (out++[_]).length)),(1,none),(4,nB 4 (out++[_]))]) (k2:=gr))|refine y3 ?_|exact y5|fail)
   all_goals try exact y7
   all_goals exact Fin.p5 4 (.tup []) (.inr rfl) rfl rfl rfl (VLe.any _) rfl rfl
 ·rcases hop with rfl|rfl
  all_goals
   refine wW Tryz.func81 ?_
   repeat'(first|exact y0|refine y1 ?_|refine y2 ?_ ?_|(refine y4 λh=>?_;try(first|(first|contradiction|(exfalso;omega)|(exfalso;simp at h;done))|exact y6))|refine wX 87 (bo hpe ?_)|refine wX 137 (cf [0,1,2] hx ?_)|(refine wX 140 ?_;refine iq [0,1,2] had ?_ (wr:=[(0,some (rp 4 5 ts (i+1) (out++[_]).length)),(1,none),(4,nB 4 (out++[_]))]) (k2:=gr))|refine y3 ?_|exact y5|fail)
   all_goals try exact y7
   all_goals exact Fin.p5 4 (.tup []) (.inr rfl) rfl rfl rfl (VLe.any _) rfl rfl
section
variable {P:Program} {b:Nat} {env:List V} {n:Nat} {L:Hp} {R:Post}
theorem Ex.celP {c:Code} (j o:Nat) {s s':S} {bl:Bl} (hl:lk L j=some bl) (ho:bl.cells[o]? =some s) (hle:SLe s s') {L':Hp} (hL:put L j (some {bl with cells:=bl.cells.set o s'})=L') (k:Ex P b c env n L' R):Ex P b c env n L R:=by
 subst hL;refine Ex.subF (λi bl' hi=>?_) k;rw[az] at hi;split at hi
 ·rename_i e;subst e;cases hi
  refine⟨bl,hl,rfl,λφ w c h=>?_⟩;obtain⟨pre,xs,rest,fr,h1,hp,h2,h3,h4,h5⟩:=h;exact⟨pre,xs,rest,fr,h1,hp,eU h2 (λx hx=>hle _ _ (gk h2 ho hx)),h3,h4,h5⟩
 ·exact⟨bl',hi,rfl,λ_ _ _ h=>h⟩
theorem Ex.celR (id:Nat) {ops:Array Oper} {d:Bool} (j o:Nat) {s s':S} {bl:Bl} (hl:lk L j=some bl) (ho:bl.cells[o]? =some s) (hle:SLe s s') {L':Hp} (hL:put L j (some {bl with cells:=bl.cells.set o s'})=L') (k:Ex P b (.region id ops d) env n L' R):Ex P b (.region id ops d) env n L R:=Ex.celP j o hl ho hle hL k
end
theorem ut {p:List Nd} {k:Nat} {z:Int} (hk:k<p.length):bR (p.flatMap ndC) (k*4+3) [.int .i64 z]=(p.set k {p.getD k dN with kids:=z}).flatMap ndC:=kh (g:=ndC) (d:=dN) (λ_=>rfl) an hk rfl
abbrev pI (out:List Nd) (at_:Nat) (z:Int):List Nd:=out.set at_ {out.getD at_ dN with kids:=z}
theorem xY {g:Nat} {q:List Nd} (h:0<q.length):nB g q=some {cells:=q.flatMap ndC,ty:=49,more:=true,sym:=true,flat:=true,gh:=some (g+1,4)}:=by
 cases q with
 |nil=>exact absurd h (Z40 0)
 |cons x q=>rfl
abbrev xm (ts:List Tk) (k:Int) (i:Nat) (out:List Nd) (i':Nat) (out':List Nd):Prop:=FC Tryz.prog 144 [.s (.ptr (some (0,0))),n8 k] 3 (HA ts i out) .any 5 (tS ts i' out')
inductive ArgS (ts:List Tk):By->Bool->Nat->List Nd->Nat->List Nd->Prop
 |nil {b:Bool} {i:Nat} {out:List Nd}:ArgS ts [] b i out i out
 |cons {k:UInt8} {ks:By} {b:Bool} {i j i1 i2:Nat} {out out1 out2:List Nd} (hk:sx (k.toNat:Int)=false) (hc:b=false->j=i+1/\Ee ts i=9/\i<ts.length) (hc':b=true->j=i) (hn:i7 ts (k.toNat:Int) j out i1 out1) (r:ArgS ts ks false i1 out1 i2 out2):ArgS ts (k::ks) b i out i2 out2
inductive BlkS (ts:List Tk):By->Nat->List Nd->Nat->List Nd->Prop
 |nil {i:Nat} {out:List Nd}:BlkS ts [] i out i out
 |cons {k:UInt8} {ks:By} {i i1 i2:Nat} {out out1 out2:List Nd} (hk:sx (k.toNat:Int)=true) (hn:xm ts (k.toNat:Int) i out i1 out1) (r:BlkS ts ks i1 out1 i2 out2):BlkS ts (k::ks) i out i2 out2
theorem o6 (ts:List Tk) (hts:ts.length<=100000) (as_ bs:By) (hl:(as_++bs).length<=100) (at_:Nat) (i i1 i':Nat) (out out1 out':List Nd) (ha:at_<out.length) (ho:out.length<=100000) (h5:Ee ts i=5) (hi:i<ts.length) (hA:ArgS ts as_ true (i+1) (pI out at_ (as_++bs).length) i1 out1) (h6:Ee ts i1=6) (hi1:i1<ts.length) (hB:BlkS ts bs (i1+1) out1 i' out'):
 FC Tryz.prog 143 [.s (.ptr (some (0,0))),nI at_,sV (as_++bs)] 3 (HA ts i out) .any 5 (tS ts i' out'):=by
 obtain⟨x0,o,rfl⟩:∃ x0 o,out=x0::o:=by
  cases out with
  |nil=>exact absurd ha (Z1m _)
  |cons x0 o=>exact⟨x0,o,rfl⟩
 have hsz:(Tryz.prog.types[49]).size=4:=by kernel_rfl
 have hks:bR ((x0::o).flatMap ndC) (at_*4+3) [.int .i64 ((as_++bs).length:Nat)]=(pI (x0::o) at_ (as_++bs).length).flatMap ndC:=ut ha
 have hkl:(pI (x0::o) at_ (as_++bs).length).length=o.length+1:=by simp[pI]
 generalize pI (x0::o) at_ (as_++bs).length=q at*;have ht:=nM ts i (o.length+1) 5 hts hi h5;generalize hll:as_++bs=l at*;refine wW Tryz.func143 ?_;refine Ex.celP 0 2 (s':=.sla 1 2 (o.length+1)) rfl rfl (SLe.rowsla (Z1n _)) rfl ?_
 repeat'(first|refine Ex.celR 1 0 2 (s':=.row 1 2 (o.length+1)) rfl rfl (SLe.slarow (Z1n _)) rfl ?_|exact y0|refine y1 ?_|refine y2 ?_ ?_|refine y4 λh=>?_|refine wX 209 (cf [0,1,2] ht ?_)|refine RegX.sto [.cells (q.flatMap ndC)] rfl rfl ⟨?_,?_⟩ rfl ?_|refine y3 ?_|exact y5|fail)
 ·rw[hsz,am,am,aB,Z0c]
  show at_*4+3+1<=((x0::o).flatMap ndC).length;rw[kG];omega
 ·rw[hsz,am,am,aB,Z0c];exact hks.symm
 have hq:nB 1 q=some {cells:=q.flatMap ndC,ty:=49,more:=true,sym:=true,flat:=true,gh:=some (2,4)}:=xY aa;refine Ex.canon [0,1,2,1,2] 67 [(0,.s (.ptr (some (0,0)))),(1,nI at_),(2,sV l),(6,nI 0)] [(0,some (rp 3 4 ts (i+1) q.length)),(3,nB 3 q)] rfl rfl ⟨VLe.refl _,VLe.refl _,VLe.refl _,VLe.refl _,trivial⟩ ⟨by rw[hkl];rfl,MemP.op hq.symm trivial⟩ (by unfold nB;generalize List.flatMap _ _=cg;cases cg<;>rfl) ?_;refine Ex.inv (σ:=By×By×Nat×List Nd) (λs=>[(6,nI s.1.length)]) (λs=>[(0,some (rp 3 4 ts s.2.2.1 s.2.2.2.length)),(3,nB 3 s.2.2.2)]) (λs=>s.1++s.2.1=as_/\ArgS ts s.2.1 s.1.isEmpty s.2.2.1 s.2.2.2 i1 out1) (λs=>s.2.1.length) ([],as_,i+1,q) rfl (λ_=>rfl) ⟨rfl,hA⟩ aV ⟨rfl,SubP.op rfl trivial⟩ ?_;clear hA hks hkl hq ht;rintro⟨D,R,j,u⟩ ⟨d1,d2⟩;simp only at d1 d2 |-
 cases d2 with
 |nil=>
  rw[Z0u] at d1;subst d1
  have hbl:D.length<l.length->sx ((l.getD D.length 0).toNat:Int)=true:=λh=>by
   subst hll
   cases hB with
   |nil=>simp at h
   | @cons k _ _ _ _ _ _ _ hk _ _=>
     rw[show (D++k::_).getD D.length 0=k by simp];exact hk
  have hbk:=sw ((l.getD D.length 0).toNat:Int);have ht:=nM ts i1 out1.length 6 hts hi1 h6
  repeat'(first|exact y0|refine y1 ?_|refine y2 ?_ ?_|(refine y4 λh=>?_;try(first|(first|contradiction|(exfalso;omega)|(rw[hbl aa] at h;cases h))|exact y6))|refine wX 148 (bo hbk ?_)|refine wX 209 (cf [0,3,4] ht ?_)|refine y3 ?_|exact y5|fail)
  all_goals
   refine Ex.inv (σ:=By×By×Nat×List Nd) (λs=>[(6,nI s.1.length)]) (λs=>[(0,some (rp 3 4 ts s.2.2.1 s.2.2.2.length)),(3,nB 3 s.2.2.2)]) (λs=>s.1++s.2.1=l/\BlkS ts s.2.1 s.2.2.1 s.2.2.2 i' out') (λs=>s.2.1.length) (D,bs,i1+1,out1) rfl (λ_=>rfl) ⟨hll,hB⟩ aV ⟨rfl,SubP.op rfl trivial⟩ ?_;clear hB hll hbl hbk ht;rintro⟨D,R,j,u⟩ ⟨d1,d2⟩;simp only at d1 d2 |-
   cases d2 with
   |nil=>
    rw[Z0u] at d1;subst d1
    repeat'(first|exact y0|refine y1 ?_|refine y2 ?_ ?_|refine y4 λh=>?_|refine y3 ?_|exact y5|fail)
    exact Fin.p5 3 (.tup []) (.inr rfl) rfl rfl rfl (VLe.any _) rfl rfl
   | @cons k R' _ i2 _ _ u1 _ hk hn r=>
     have hget:l.getD D.length 0=k:=by rw[<-d1];simp
     have hlen:D.length<l.length:=by rw[<-d1];simp
     repeat'(first|exact y0|refine y1 ?_|refine y2 ?_ ?_|refine y4 λh=>?_|(refine wX 144 ?_;refine iq [0,3,4] hn ?_ (wr:=[(0,some (rp 5 6 ts i2 u1.length)),(3,none),(5,nB 5 u1)]) (k2:=gr) (hle:=by exact⟨VLe.refl _,VLe.of_eq (congrArg (λz:UInt8=>V.s (S.int .u8 (z.toNat:Int))) hget),trivial⟩))|refine y3 ?_|exact y5|fail)
     all_goals try exact y7
     refine LoopR.move (D++[k],R',i2,u1) ⟨?_,?_⟩ (by simp only[Z04];omega) [0,1,2,5,6] rfl ?_ ?_ ?_
     ·rw[<-d1];simp
     ·exact r
     ·repeat' (first|exact VLe.refl _|exact VLe.any _|exact Z0o|exact VLe.of_eq (congrArg nI an)|refine⟨?_,?_⟩)
     ·exact⟨rfl,MemP.op rfl trivial⟩
     ·unfold nB
      generalize List.flatMap _ _=cg
      cases cg<;>rfl
 | @cons k R' _ _ j' i2 _ _ u1 _ hk hc hc' hn r=>
   have hget:l.getD D.length 0=k:=by rw[<-hll,<-d1];simp
   have hlen:D.length<l.length:=by rw[<-hll,<-d1];simp
   have hbk:=sw ((l.getD D.length 0).toNat:Int);rw[show sx ((l.getD D.length 0).toNat:Int)=false by rw[hget];exact hk] at hbk
   cases D with
   |nil=>
    obtain rfl:=hc' rfl
    repeat'(first|exact y0|refine y1 ?_|refine y2 ?_ ?_|refine y4 λh=>?_|refine wX 148 (bo hbk ?_)|(refine wX 81 ?_;refine iq [0,3,4] hn ?_ (wr:=[(0,some (rp 5 6 ts i2 u1.length)),(3,none),(5,nB 5 u1)]) (k2:=gr) (hle:=by exact⟨VLe.refl _,VLe.of_eq (congrArg (λz:UInt8=>V.s (S.int .u8 (z.toNat:Int))) hget),trivial⟩))|refine y3 ?_|exact y5|fail)
    all_goals try exact y7
    refine LoopR.move ([k],R',i2,u1) ⟨?_,?_⟩ (by simp only[Z04];omega) [0,1,2,5,6] rfl ?_ ?_ ?_
    ·rw[<-d1];simp
    ·exact r
    ·repeat' (first|exact VLe.refl _|exact VLe.any _|exact Z0o|exact VLe.of_eq (congrArg nI an)|refine⟨?_,?_⟩)
    ·exact⟨rfl,MemP.op rfl trivial⟩
    ·unfold nB
     generalize List.flatMap _ _=cg
     cases cg<;>rfl
   |cons d0 D'=>
    obtain⟨rfl,h9,hjl⟩:=hc rfl;have hDl:0<(d0::D').length:=Z1n _;have ht9:=nM ts j u.length 9 hts hjl h9
    repeat'(first|exact y0|refine y1 ?_|refine y2 ?_ ?_|refine y4 λh=>?_|refine wX 148 (bo hbk ?_)|refine wX 209 (cf [0,3,4] ht9 ?_)|(refine wX 81 ?_;refine iq [0,3,4] hn ?_ (wr:=[(0,some (rp 5 6 ts i2 u1.length)),(3,none),(5,nB 5 u1)]) (k2:=gr) (hle:=by exact⟨VLe.refl _,VLe.of_eq (congrArg (λz:UInt8=>V.s (S.int .u8 (z.toNat:Int))) hget),trivial⟩))|refine y3 ?_|exact y5|fail)
    all_goals try exact y7
    refine LoopR.move (d0::D'++[k],R',i2,u1) ⟨?_,?_⟩ (by simp only[Z04];omega) [0,1,2,5,6] rfl ?_ ?_ ?_
    ·rw[<-d1];simp
    ·exact r
    ·repeat' (first|exact VLe.refl _|exact VLe.any _|exact Z0o|exact VLe.of_eq (congrArg nI an)|refine⟨?_,?_⟩)
    ·exact⟨rfl,MemP.op rfl trivial⟩
    ·unfold nB
     generalize List.flatMap _ _=cg
     cases cg<;>rfl
theorem tY (ts:List Tk) (k:Int) (i i':Nat) (out out':List Nd) (op:Int) (hts:ts.length<=100000) (hi:i<ts.length) (ho:out.length<=100000) (hx:qF ts i out.length ⟨op,0,[],0⟩) (hop:op=11\/op=13) (hk:k≠83/\k≠101/\k≠115) (hp:bn k op=true)
 (hc:FC Tryz.prog 143 [.s (.ptr (some (0,0))),nI out.length,sV (nR op).1.2.2] 3 (HA ts (i+1) (out++[⟨op,0,[],0⟩])) .any 5 (tS ts i' out')):i7 ts k i out i' out':=by
 have hpe:=nX k op;rw[hp] at hpe;have hro:=qY op;have had:=DM ts (i+1) out ⟨op,0,[],0⟩ ho;have hol:(out++[(⟨op,0,[],0⟩:Nd)]).length=out.length+1:=an;obtain⟨h83,h101,h115⟩:=hk;generalize nR op=r at*;obtain⟨⟨r1,r2,ks⟩,rb⟩:=r
 rcases hop with rfl|rfl
 all_goals
  refine wW Tryz.func81 ?_
  repeat'(first|exact y0|refine y1 ?_|refine y2 ?_ ?_|(refine y4 λh=>?_;try(first|(first|contradiction|(exfalso;omega)|(exfalso;simp at h;done))|exact y6))|refine wX 87 (bo hpe ?_)|refine wX 145 (pu hro ?_)|refine wX 137 (cf [0,1,2] hx ?_)|(refine wX 140 ?_;refine iq [0,1,2] had ?_ (wr:=[(0,some (rp 4 5 ts (i+1) (out++[_]).length)),(1,none),(4,nB 4 (out++[_]))]) (k2:=gr))|(refine wX 143 ?_;refine iq [0,4,5] hc ?_ (wr:=[(0,some (rp 7 8 ts i' out'.length)),(4,none),(7,nB 7 out')]) (k2:=gr))|refine y3 ?_|exact y5|fail)
  all_goals try exact y7
  all_goals exact Fin.p5 7 (.tup []) (.inr rfl) rfl rfl rfl (VLe.any _) rfl rfl
theorem fJ {sz o:Nat} {bl:Bl} {x:S} (h:bl.kind=none) (h1:bl.cells[o]? =some x):ef false sz bl o=some (.s x):=by
 unfold ef;rw[h];simp only;rw[h1]
inductive ElS (ts:List Tk) (k:Int) (m at_:Nat):Nat->Nat->List Nd->Nat->List Nd->Prop
 |nil {c i:Nat} {out:List Nd}:ElS ts k m at_ c i out i out
 |cons {c i i1 i2:Nat} {out out1 out2:List Nd} (h:Ee ts i≠8) (hn:i7 ts k i (pI out at_ ((c:Int)+1)) i1 out1) (ho:at_<out1.length) (hc:c<m) (h1:(out1.getD at_ dN).kids=((c+1:Nat):Int)) (r:ElS ts k m at_ (c+1) i1 out1 i2 out2):ElS ts k m at_ c i out i2 out2
theorem FY (ts:List Tk) (hts:ts.length<=100000) (k:Int) (hk:k≠73/\k≠80) (m i i':Nat) (out out':List Nd) (hmm:m<=100000) (ho:out.length<=100000) (h7:Ee ts i=7) (hi:i<ts.length) (hE:ElS ts k m out.length 0 (i+1) (out++[⟨4,0,[],0⟩]) i' out') (h8:Ee ts i'=8) (hi':i'<ts.length):xm ts k i out (i'+1) out':=by
 have hsz:(Tryz.prog.types[49]).size=4:=by kernel_rfl
 have ht:=nM ts i out.length 7 hts hi h7;have had:=DM ts (i+1) out ⟨4,0,[],0⟩ ho;obtain⟨h73,h80⟩:=hk;refine wW Tryz.func144 ?_
 repeat'(first|exact y0|refine y1 ?_|refine y2 ?_ ?_|refine y4 λh=>?_|refine wX 209 (cf [0,1,2] ht ?_)|(refine wX 140 ?_;refine iq [0,1,2] had ?_ (wr:=[(0,some (rp 3 4 ts (i+1) (out++[(⟨4,0,[],0⟩:Nd)]).length)),(1,none),(3,nB 3 (out++[(⟨4,0,[],0⟩:Nd)]))]) (k2:=gr))|refine y3 ?_|exact y5|fail)
 have hout:out.length<(out++[(⟨4,0,[],0⟩:Nd)]).length:=an;have hk0:((out++[(⟨4,0,[],0⟩:Nd)]).getD out.length dN).kids=((0:Nat):Int):=an;generalize out++[(⟨4,0,[],0⟩:Nd)]=q at*;clear ht had ho h7 hi;generalize out.length=at_ at*;refine Ex.inv (σ:=Nat×Nat×List Nd) (λs=>[]) (λs=>[(0,some (rp 3 4 ts s.2.1 s.2.2.length)),(3,nB 3 s.2.2)]) (λs=>at_<s.2.2.length/\(s.2.2.getD at_ dN).kids=(s.1:Int)/\ElS ts k m at_ s.1 s.2.1 s.2.2 i' out') (λs=>m-s.1) (0,i+1,q) rfl (λ_=>rfl) ⟨hout,hk0,hE⟩ trivial ?_ ?_
 ·exact⟨rfl,SubP.op rfl trivial⟩
 clear hout hk0 hE;rintro⟨c,i,q⟩ ⟨d1,d2,d3⟩;simp only at d1 d2 d3 |-
 cases d3 with
 |nil=>
  have hkd:=ww ts i' out'.length hts;rw[h8] at hkd;have ht:=nM ts i' out'.length 8 hts hi' h8
  repeat'(first|exact y0|refine y1 ?_|refine y2 ?_ ?_|refine y4 λh=>?_|refine wX 142 (cf [0,3,4] hkd ?_)|refine wX 209 (cf [0,3,4] ht ?_)|refine y3 ?_|exact y5|fail)
  all_goals exact Fin.p5 3 (.tup []) (.inr rfl) rfl rfl rfl (VLe.any _) rfl rfl
 | @cons _ _ i1 _ _ out1 _ h hn ho1 hc h1 r=>
   obtain⟨x0,o,rfl⟩:∃ x0 o,q=x0::o:=by
    cases q with
    |nil=>exact absurd d1 (Z1m _)
    |cons x0 o=>exact⟨x0,o,rfl⟩
   have hks:bR ((x0::o).flatMap ndC) (at_*4+3) [.int .i64 ((c:Int)+1)]=(pI (x0::o) at_ ((c:Int)+1)).flatMap ndC:=ut d1
   have hkl:(pI (x0::o) at_ ((c:Int)+1)).length=o.length+1:=by simp[pI]
   have hld:((x0::o).flatMap ndC)[at_*4+3]? =some (.int .i64 (c:Int)):=cF ndC 4 dN (λ_=>rfl) d1 (by rw[<-d2];rfl);have hkd:=ww ts i (o.length+1) hts;generalize pI (x0::o) at_ ((c:Int)+1)=q2 at*;have hq:nB 3 q2=some {cells:=q2.flatMap ndC,ty:=49,more:=true,sym:=true,flat:=true,gh:=some (4,4)}:=xY aa
   repeat'(first|refine Ex.celR 5 0 2 (s':=.sla 3 4 (o.length+1)) rfl rfl (SLe.rowsla (Z1n _)) rfl ?_|refine Ex.celR 6 0 2 (s':=.row 3 4 q2.length) rfl rfl (by rw[hkl];exact SLe.slarow (Z1n _)) rfl ?_|exact y0|refine y1 ?_|refine y2 ?_ ?_|refine y4 λh=>?_|refine wX 142 (cf [0,3,4] hkd ?_)|(refine wX 81 ?_;refine iq [0,3,4] hn ?_ (wr:=[(0,some (rp 5 6 ts i1 out1.length)),(3,none),(5,nB 5 out1)]) (k2:=gr) (ft:=by exact⟨⟨rfl,_,rfl,rfl,λh=>h⟩,FitP.op rfl hq.symm trivial⟩))|refine RegX.ldS [.val (nI c)] rfl rfl ?_ rfl ?_|refine RegX.sto [.cells (q2.flatMap ndC)] rfl rfl ⟨?_,?_⟩ rfl ?_|refine y3 ?_|exact y5|fail)
   ·rw[hsz,am,am,aB,Z0c]
    exact fJ rfl hld
   ·rw[hsz,am,am,aB,Z0c]
    show at_*4+3+1<=((x0::o).flatMap ndC).length;rw[kG];omega
   ·rw[hsz,am,am,aB,Z0c];exact hks.symm
   refine LoopR.move (c+1,i1,out1) ⟨ho1,h1,r⟩ (by show m-(c+1)<m-c;omega) [0,1,2,5,6] rfl ?_ ?_ ?_
   ·repeat' (first|exact VLe.refl _|exact VLe.any _|exact Z0o|refine⟨?_,?_⟩)
   ·exact⟨rfl,MemP.op rfl trivial⟩
   ·unfold nB
    generalize List.flatMap _ _=cg
    cases cg<;>rfl
abbrev Ro:=Int×Ent
def IR (x:Ent):List S:=[.str x.path,.int .i64 x.op,.int .i64 x.par,.int .i64 x.tab,.int .i64 x.node]
def mW (r:Ro):List S:=.int .i64 r.1::IR r.2
abbrev dO:Ro:=(0,eZ)
abbrev oR (O:List Ro):Bl:={cells:=O.flatMap mW,ty:=88,more:=true,sym:=true,flat:=true,gh:=some (2,6)}
abbrev Bg (m nt nl:Nat) (nx nh:Int):Bl:={cells:=[.sla 1 2 m,.row 3 4 nt,.row 5 6 nl,.int .i64 nx,.int .i64 nh],ty:=93}
abbrev rsV (O:List Ro) (nt nl:Nat) (nx nh:Int):Hp:=[(0,some (Bg O.length nt nl nx nh)),(1,some (oR O))]
abbrev GG (O:List Ro):Bl:={oR O with ro:=true}
abbrev zj (m nt nl:Nat) (nx nh:Int):Bl:={Bg m nt nl nx nh with ro:=true}
abbrev Bf (O:List Ro) (nt nl:Nat) (nx nh:Int):Hp:=[(0,some (zj O.length nt nl nx nh)),(1,some (GG O))]
def pv (s:By):List Ro->Int
 |[]=> -1
 |r::t=>if r.2.path=s then r.1 else pv s t
def gD (z:Int):List Ro->Option Ent
 |[]=>none
 |r::t=>if r.1=z then some r.2 else gD z t
theorem rm {O:List Ro} {j o:Nat} {x:S} (hj:j<O.length) (hx:(mW (O.getD j dO))[o]? =some x):(O.flatMap mW)[j*6+o]? =some x:=cF mW 6 dO (λ_=>rfl) hj hx
theorem xR {O:List Ro} {j:Nat} (h:j<O.length):O.drop j=O.getD j dO::O.drop (j+1):=by
 rw[Z0k h,Z00,Z01 h];rfl
theorem Ix (O:List Ro) (nt nl:Nat) (nx nh:Int) (s:By) (hO:O.length<=100000) (h0:0<O.length):FC Tryz.prog 53 [.s (.ptr (some (0,0))),sV s] 7 (Bf O nt nl nx nh) (nI (pv s O)) 7 (Bf O nt nl nx nh):=by
 have hsz:(Tryz.prog.types[88]).size=6:=by kernel_rfl
 refine wW Tryz.func53 ?_;generalize hR:pv s O=R
 repeat'(first|exact y0|refine y1 ?_|refine y2 ?_ ?_|refine y4 λh=>?_|refine y3 ?_|exact y5|fail)
 refine Ex.inv (σ:=Nat) (λj=>[(5,nI j)]) (λ_=>Bf O nt nl nx nh) (λj=>j<=O.length/\pv s (O.drop j)=R) (λj=>O.length-j) 0 rfl (λ_=>rfl) ⟨Z08 _,hR⟩ aV ⟨rfl,rfl,trivial⟩ ?_;rintro j ⟨hj,hI⟩;by_cases h:j<O.length
 ·rw[xR h] at hI
  simp only[pv] at hI;have hp:(O.flatMap mW)[j*6+1]? =some (.str (O.getD j dO).2.path):=rm h rfl;have hi:(O.flatMap mW)[j*6+0]? =some (.int .i64 (O.getD j dO).1):=rm h rfl;by_cases ho:(O.getD j dO).2.path=s
  ·rw[if_pos ho] at hI
   subst hI
   repeat'(first|exact y0|refine y1 ?_|refine y2 ?_ ?_|refine y4 λh=>?_|refine RegX.ldS [.val (sV (O.getD j dO).2.path)] rfl rfl (by rw[hsz,am,am,am,aB,Z0c];exact fJ rfl hp) rfl ?_|refine RegX.ldS [.val (nI (O.getD j dO).1)] rfl rfl (by rw[hsz,am,am,aB,Z0c];exact fJ rfl hi) rfl ?_|refine y3 ?_|exact y5|fail)
   all_goals exact bh
  ·rw[if_neg ho] at hI
   repeat'(first|exact y0|refine y1 ?_|refine y2 ?_ ?_|refine y4 λh=>?_|refine RegX.ldS [.val (sV (O.getD j dO).2.path)] rfl rfl (by rw[hsz,am,am,am,aB,Z0c];exact fJ rfl hp) rfl ?_|refine RegX.ldS [.val (nI (O.getD j dO).1)] rfl rfl (by rw[hsz,am,am,aB,Z0c];exact fJ rfl hi) rfl ?_|refine y3 ?_|exact y5|fail)
   all_goals try exact y7
   exact LoopR.same (j+1) ⟨aa,hI⟩ aa rfl aV ⟨rfl,rfl,trivial⟩ rfl rfl ac
 ·rw[Z10 aa] at hI
  subst hI
  repeat'(first|exact y0|refine y1 ?_|refine y2 ?_ ?_|refine y4 λh=>?_|refine y3 ?_|exact y5|fail)
  exact bh
theorem mV:∀ l:List Ro,(l.flatMap mW).length=l.length*6
 |[]=>rfl
 |r::t=>by rw[Z0g,Z03,mV t,Z04];show 6+_=_;omega
theorem Hy {O:List Ro} {j:Nat} (h:j<O.length):ef true 5 (GG O) (j*6+1)=some (.agg (IR (O.getD j dO).2)):=by
 have hl:=mV O
 have key:∀ (q:List Ro) (i:Nat),i<q.length->((q.flatMap mW).drop (i*6+1)).take 5=IR (q.getD i dO).2:=by
  intro q
  induction q with
  |nil=>intro i h;simp at h
  |cons x q ih=>
   intro i h
   cases i with
   |zero=>rfl
   |succ i=>
    rw[Z0g,show (i+1)*6+1=(i*6+1)+6 by omega,Z27];exact ih i (by simpa using h)
 unfold ef;rw[show (GG O).kind=none from rfl];simp only;rw[Z3y (by show j*6+1+5<=(O.flatMap mW).length;omega)];show some (V.agg (((O.flatMap mW).drop (j*6+1)).take 5))=_;rw[key O j h]
theorem tV (O:List Ro) (nt nl:Nat) (nx nh:Int) (z:Int) (r:Option Ent) (hr:gD z O=r) (hO:O.length<=100000) (h0:0<O.length):FC Tryz.prog 17 [.s (.ptr (some (0,0))),nI z] 7 (Bf O nt nl nx nh) (.tup [.agg (IR (r.getD eZ)),.s (.bool r.isSome)]) 7 (Bf O nt nl nx nh):=by
 have hsz:(Tryz.prog.types[88]).size=6:=by kernel_rfl
 refine wW Tryz.func17 ?_
 repeat'(first|exact y0|refine y1 ?_|refine y2 ?_ ?_|refine y4 λh=>?_|refine y3 ?_|exact y5|fail)
 refine Ex.inv (σ:=Nat) (λj=>[(6,nI j)]) (λ_=>[(0,some (zj O.length nt nl nx nh)),(1,some (GG O)),(7,some {cells:=[.str [],.int .i64 0,.int .i64 0,.int .i64 0,.int .i64 0],ty:=38})]) (λj=>j<=O.length/\gD z (O.drop j)=r) (λj=>O.length-j) 0 rfl (λ_=>rfl) ⟨Z08 _,hr⟩ aV ⟨rfl,rfl,rfl,trivial⟩ ?_;clear hr;rintro j ⟨hj,hI⟩;by_cases h:j<O.length
 ·rw[xR h] at hI
  simp only[gD] at hI;have hi:(O.flatMap mW)[j*6+0]? =some (.int .i64 (O.getD j dO).1):=rm h rfl;have hx:=Hy h;by_cases ho:(O.getD j dO).1=z
  ·rw[if_pos ho] at hI
   subst hI
   repeat'(first|exact y0|refine y1 ?_|refine y2 ?_ ?_|refine y4 λh=>?_|refine RegX.ldS [.val (nI (O.getD j dO).1)] rfl rfl (by rw[hsz,am,am,aB,Z0c];exact fJ rfl hi) rfl ?_|refine RegX.ldS [.val (.agg (IR (O.getD j dO).2))] rfl rfl (by rw[hsz,am,am,aB,Z0c];exact hx) rfl ?_|refine y3 ?_|exact y5|fail)
   all_goals exact bh
  ·rw[if_neg ho] at hI
   repeat'(first|exact y0|refine y1 ?_|refine y2 ?_ ?_|refine y4 λh=>?_|refine RegX.ldS [.val (nI (O.getD j dO).1)] rfl rfl (by rw[hsz,am,am,aB,Z0c];exact fJ rfl hi) rfl ?_|refine y3 ?_|exact y5|fail)
   all_goals try exact y7
   exact LoopR.same (j+1) ⟨aa,hI⟩ aa rfl aV ⟨rfl,rfl,rfl,trivial⟩ rfl rfl ac
 ·rw[Z10 aa] at hI
  subst hI
  repeat'(first|exact y0|refine y1 ?_|refine y2 ?_ ?_|refine y4 λh=>?_|refine y3 ?_|exact y5|fail)
  exact bh
def k_ (O:List Ro) (z:Int):Bool:=match gD z O with|some x=>decide (x.op=10)||decide (x.op=11)||decide (x.op=12)|none=>false
theorem Dl (O:List Ro) (nt nl:Nat) (nx nh:Int) (z:Int) (hO:O.length<=100000) (h0:0<O.length):FC Tryz.prog 146 [.s (.ptr (some (0,0))),nI z] 7 (Bf O nt nl nx nh) (bV (k_ O z)) 7 (Bf O nt nl nx nh):=by
 have hob:=tV O nt nl nx nh z _ rfl hO h0;unfold k_;generalize gD z O=r at*;refine wW Tryz.func146 ?_
 cases r with
 |none=>
  repeat'(first|exact y0|refine y1 ?_|refine y2 ?_ ?_|refine y4 λh=>?_|refine wX 17 (cf [0,1,2,3,4,5,6] hob ?_)|refine y3 ?_|exact y5|fail)
  all_goals exact bh
 |some x=>
  repeat'(first|exact y0|refine y1 ?_|refine y2 ?_ ?_|refine y4 λh=>?_|refine wX 17 (cf [0,1,2,3,4,5,6] hob ?_)|refine y3 ?_|exact y5|fail)
  all_goals refine⟨.inl rfl,_,[],VLe.of_eq (congrArg bV ?_),EndOK.by rfl ⟨rfl,rfl,trivial⟩ rfl rfl rfl rfl⟩
  all_goals simp only[Z22] at*
  all_goals simp[*]
abbrev Rt:=Int×List Nd
def qW (r:Rt):List S:=[.int .i64 r.1,.frz (λk=>ndC (r.2.getD k dN)) 4 r.2.length]
abbrev dT:Rt:=(0,[])
abbrev tR (g:Nat) (T:List Rt):Option Bl:=eI 145 (g+1) 2 (T.flatMap qW)
def nN (z:Int):Nat->List Rt->Int
 |_,[]=> -1
 |k,r::t=>if r.1=z then (k:Int) else nN z (k+1) t
theorem Bc {T:List Rt} {j o:Nat} {x:S} (hj:j<T.length) (hx:(qW (T.getD j dT))[o]? =some x):(T.flatMap qW)[j*2+o]? =some x:=cF qW 2 dT (λ_=>rfl) hj hx
theorem EK {T:List Rt} {j:Nat} (h:j<T.length):T.drop j=T.getD j dT::T.drop (j+1):=by
 rw[Z0k h,Z00,Z01 h];rfl
abbrev rsS (m n nl:Nat) (nx nh:Int):Bl:={cells:=[.sla 1 2 m,.sla 3 4 n,.row 5 6 nl,.int .i64 nx,.int .i64 nh],ty:=93,ro:=true}
abbrev tRo (g:Nat) (T:List Rt):Bl:={cells:=T.flatMap qW,ty:=145,more:=true,ro:=true,sym:=true,flat:=true,gh:=some (g+1,2)}
abbrev rsU (m n nl:Nat) (nx nh:Int) (T:List Rt):Hp:=[(0,some (rsS m n nl nx nh)),(3,some (tRo 3 T))]
theorem Ew (m nl:Nat) (nx nh:Int) (t0:Rt) (t:List Rt) (z:Int) (hT:(t0::t).length<=100000):FC Tryz.prog 79 [.s (.ptr (some (0,0))),nI z] 7 (rsU m (t.length+1) nl nx nh (t0::t)) (nI (nN z 0 (t0::t))) 7 (rsU m (t.length+1) nl nx nh (t0::t)):=by
 have hsz:(Tryz.prog.types[145]).size=2:=by kernel_rfl
 generalize hR:nN z 0 (t0::t)=R;refine wW Tryz.func79 ?_
 repeat'(first|exact y0|refine y1 ?_|refine y2 ?_ ?_|refine y4 λh=>?_|refine y3 ?_|exact y5|fail)
 refine Ex.inv (σ:=Nat) (λj=>[(5,nI j)]) (λ_=>rsU m (t.length+1) nl nx nh (t0::t)) (λj=>j<=(t0::t).length/\nN z j ((t0::t).drop j)=R) (λj=>(t0::t).length-j) 0 rfl (λ_=>rfl) ⟨Z08 _,hR⟩ aV ⟨rfl,rfl,trivial⟩ ?_;rintro j ⟨hj,hI⟩;by_cases h:j<(t0::t).length
 ·rw[EK h,nN] at hI
  have hi:((t0::t).flatMap qW)[j*2+0]? =some (.int .i64 ((t0::t).getD j dT).1):=Bc h rfl;rw[Z04] at h hj hT;generalize (t0::t).getD j dT=u at*;by_cases ho:u.1=z
  ·rw[if_pos ho] at hI
   subst hI
   repeat'(first|exact y0|refine y1 ?_|refine y2 ?_ ?_|refine y4 λh=>?_|refine RegX.ldS [.val (nI u.1)] rfl rfl (by rw[hsz,am,am,aB,Z0c];exact fJ rfl hi) rfl ?_|refine y3 ?_|exact y5|fail)
   exact bh
  ·rw[if_neg ho] at hI
   repeat'(first|exact y0|refine y1 ?_|refine y2 ?_ ?_|refine y4 λh=>?_|refine RegX.ldS [.val (nI u.1)] rfl rfl (by rw[hsz,am,am,aB,Z0c];exact fJ rfl hi) rfl ?_|refine y3 ?_|exact y5|fail)
   all_goals try exact y7
   exact LoopR.same (j+1) ⟨by simp only[Z04];omega,hI⟩ (by simp only[Z04];omega) rfl aV ⟨rfl,rfl,trivial⟩ rfl rfl ac
 ·rw[Z10 aa,nN] at hI
  subst hI;rw[Z04] at h hj hT
  repeat'(first|exact y0|refine y1 ?_|refine y2 ?_ ?_|refine y4 λh=>?_|refine y3 ?_|exact y5|fail)
  exact bh
section
variable {P:Program} {b:Nat} {env:List V} {n:Nat} {L:Hp} {R:Post}
theorem Ex.ghC {c:Code} (i j o kk w m:Nat) {bl blj:Bl} (hl:lk L i=some bl) (hnp:bl.cells.all bM=true) (hlen:kk*w<=bl.cells.length) (hlj:lk L j=some blj) (hij:Nat.beq i j=false) (ho:blj.cells[o]? =some (.slc (some (i,0)) m (some kk))) (hf:blj.flat=false)
 {L':Hp} (hL:put (put L i (some {bl with more:=true,sym:=true,flat:=true,gh:=some (n,w)})) j (some {blj with cells:=blj.cells.set o (.sla i n m)})=L') (k:Ex P b c env (n+1) L' R):Ex P b c env n L R:=by
 subst hL;intro φ a w0 h1 h2 h3 h4
 have hij:i≠j:=λe=>by rw[e,Z2n] at hij;cases hij
 let φ':Ph:=⟨λx=>if x=n then some (kk,0) else φ x,φ.z⟩
 have hn:φ n=none:=h3 n (Z02 _)
 have hle:φ.le φ':=⟨λx y e=>by show (if x=n then _ else _)=_;rw[if_neg (λe'=>by subst e';rw[hn] at e;cases e)];exact e,λ_ _ e=>e⟩
 have hn':φ' n=some (kk,0):=by show (if n=n then _ else _)=_;rw[if_pos rfl]
 have old:∀ x bx,lk L x=some bx->φ' x=φ x:=λx bx hx=>by
  obtain⟨y,hy,_⟩:=h2.hr x bx hx;rw[hy];exact hle x y hy
 let M:Hp:=put (put L i (some {bl with more:=true,sym:=true,flat:=true,gh:=some (n,w)})) j (some {blj with cells:=blj.cells.set o (.sla i n m)})
 have back:∀ x bx,lk M x=some bx->∃ b0,lk L x=some b0/\bx.ro=b0.ro/\∀ y,φ x=some y->BlAt φ w0 y b0->BlAt φ' w0 y bx:=by
  intro x bx hx;simp only[M,az] at hx;split at hx
  ·rename_i e;subst e;cases hx
   refine⟨blj,hlj,rfl,λy hy hat=>?_⟩;obtain⟨pre,xs,rest,fr,q1,hp,q2,q3,q4,q5⟩:=hat.mono hle rfl;refine⟨pre,xs,rest,fr,q1,hp,eU q2 (λv hv=>?_),q3,q4,q5⟩;have hs:=gk q2 ho hv
   have e:blj.ph φ'=φ':=by unfold Bl.ph;rw[hf]
   rw[e] at hs;show Sr (blj.ph φ') _ _;rw[e];obtain⟨b1,k1,e1,e2,e3,e4⟩:=hs
   rcases e4 with e4|e4
   ·cases e4
   ·cases e4;exact⟨b1,kk,e1,hn',by rw[Z0c] at e2;exact e2,e3⟩
  ·split at hx
   ·rename_i e;subst e;cases hx
    refine⟨bl,hl,rfl,λy hy hat=>?_⟩;obtain⟨pre,xs,rest,fr,q1,hp,q2,q3,q4,q5⟩:=(BlAt.flat hnp hat).mono hle rfl;refine⟨pre,xs,rest,fr,q1,hp,q2,λe=>(by cases e),q4,λg z e=>?_,q5.2⟩;cases e;have:=q2.len;exact⟨kk,hn',by rw[Z03,this];exact Z1z hlen (Z1o _ _)⟩
   ·exact⟨bx,hx,rfl,λy hy hat=>hat.mono hle rfl⟩
 have wb:∀ x,Wr φ' M x->Wr φ L x:=by
  rintro x ⟨i1,b1,c1,e1,e2,e3,e4⟩;obtain⟨b0,f1,f2,_⟩:=back i1 b1 e1;exact⟨i1,b0,c1,f1,by rw[<-old _ _ f1];exact e2,e3,by rw[<-f2];exact e4⟩
 have good':Ab.Good φ' M w0:=by
  refine⟨λx bx hx=>?_,λx y bx by' c c' hx hy hc hc' e=>?_,λx l hx=>⟨(h2.fz x l hx).1,λhw=>(h2.fz x l hx).2 (wb x hw)⟩,h2.gz⟩
  ·obtain⟨b0,f1,f2,f3⟩:=back x bx hx
   obtain⟨y,hy,hat⟩:=h2.hr x b0 f1;exact⟨y,hle x y hy,f3 y hy hat⟩
  ·obtain⟨b0,f1,f2,_⟩:=back x bx hx
   obtain⟨b1,g1,g2,_⟩:=back y by' hy
   rw[f2,g2];exact h2.inj x y b0 b1 c c' f1 g1 (by rw[<-old _ _ f1];exact hc) (by rw[<-old _ _ g1];exact hc') e
 refine wp_mono (k φ' a w0 ⟨h1.1,h1.2.mono λ_ _=>Vr.mono hle⟩ good' (λx hx=>?_) (Nat.le_succ_of_le h4)) ?_
 ·show (if x=n then _ else _)=_
  rw[if_neg aa];exact h3 x aa
 rintro x a' w' ⟨φ2,e,m2,M2,hR,k1,k2,k3,k4,k5,k6⟩;refine⟨φ2,e,m2,M2,hR,k1,k2,k3,k4,⟨k5.os,k5.tape,k5.output,k5.size,λd hd hnw=>k5.keep d hd λhw=>hnw (wb d hw),λj1 bl1 d hj hd hlt'=>?_,k5.zle,λx l hx=>(k5.zfr x l hx).imp id (Or.imp id (wb x))⟩,λx hx=>?_⟩
 ·obtain⟨i1,b1,c1,e1,e2,e3,e4,e5⟩:=k5.fresh j1 bl1 d hj hd hlt'
  obtain⟨b0,f1,f2,_⟩:=back i1 b1 e1;exact⟨i1,b0,c1,f1,by rw[<-old _ _ f1];exact e2,e3,λh=>e4 (f2.trans h),e5.imp id λh=>f2▸h⟩
 ·rw[k6 x hx]
  show (if x=n then _ else _)=_;rw[if_neg aa]
theorem Ex.ghR (i j o kk w m:Nat) {bl blj:Bl} (hl:lk L i=some bl) (hnp:bl.cells.all bM=true) (hlen:kk*w<=bl.cells.length) (hlj:lk L j=some blj) (hij:Nat.beq i j=false) (ho:blj.cells[o]? =some (.slc (some (i,0)) m (some kk))) (hf:blj.flat=false)
 {L':Hp} (hL:put (put L i (some {bl with more:=true,sym:=true,flat:=true,gh:=some (n,w)})) j (some {blj with cells:=blj.cells.set o (.sla i n m)})=L') (k:Ex P b .ret env (n+1) L' R):Ex P b .ret env n L R:=Ex.ghC i j o kk w m hl hnp hlen hlj hij ho hf hL k
end
abbrev O0:List Ro:=[(0,dH [92] 10 (-1) 0 0),(1,dH [92,95,83,66] 10 0 0 0),(2,dH [92,95,71,80,69] 10 0 0 0)]
theorem Jr:FC Tryz.prog 11 [] 0 [] (.s (.ptr (some (0,0)))) 7 (rsV O0 0 0 3 1):=by
 refine wW Tryz.func11 ?_
 repeat'(first|refine Ex.ghR 0 1 0 3 6 3 rfl rfl ac rfl rfl rfl rfl rfl (Ex.upN (n':=7) ac (Ex.celP 1 1 (s':=.row 3 4 0) rfl rfl SLe.nilrow rfl (Ex.celP 1 2 (s':=.row 5 6 0) rfl rfl SLe.nilrow rfl ?_)))|exact y0|refine y1 ?_|refine y2 ?_ ?_|refine y4 λh=>?_|refine y3 ?_|exact y5|fail)
 exact⟨.inl rfl,_,[1,0,2,3,4,5,6],VLe.refl _,EndOK.by rfl ⟨rfl,rfl,trivial⟩ rfl rfl rfl rfl⟩
section
variable {P:Program} {b:Nat} {ops:Array Oper} {d:Bool} {acc:List Row} {os:List Oper} {env:List V} {n:Nat} {L:Hp} {R:Post}
theorem Ex.celT (j o:Nat) {s s':S} {bl:Bl} (hl:lk L j=some bl) (ho:bl.cells[o]? =some s) (hle:SLe s s') {L':Hp} (hL:put L j (some {bl with cells:=bl.cells.set o s'})=L') (k:Ex P b .ret env n L' R):Ex P b .ret env n L R:=Ex.celP j o hl ho hle hL k
theorem xX {dst:Option Tmp} {x0:Value} {tx:Tmp} {t tx' e:TypeId} {t':TypeId} {pos:String} {af:Array Edge} {gd:Option (Nat×Bool)} {dx:TypeDesc} {inf:TypeInfo} {ad:Option Addr} {k':Nat} {a:Act} {w0:World} (ht:P.underlying t=some (.slice e)) (htx:P.underlying tx'=some dx) (hdx:gY dx=true) (hi:P.info? e=some inf) (e1:a.eval (.const x0)=.slice none 0 0) (e2:a.eval (.tmp tx)=.slice ad 0 k'):
 (execOp a.eval ⟨dst,.call ⟨.builtin .append,#[.const x0,.tmp tx],#[t,tx']⟩,t',pos,af,gd⟩).run P w0=.ok (.value (.slice none 0 0)) w0:=by
 have hszr:(sizeOf e).run P w0=.ok inf.size w0:=by simp[sizeOf,typeInfo,hi]
 have hnew:(Builtin.firstCells inf.size 0 (.slice ad 0 k')).run P w0=.ok #[] w0:=by
  cases ad<;>simp[Builtin.firstCells,loadCells,loadCellsFrom]
 have hrun:(Builtin.append_ #[t,tx'] t' #[.slice none 0 0,.slice ad 0 k']).run P w0=.ok (.slice none 0 0) w0:=by
  unfold Builtin.append_;simp only[Z1a,Z11,Z23,Z09,Ab.run_underlying ht,Ab.run_underlying htx,Z05,hszr,Z0f];have hlen:(Builtin.lenOf (.slice ad 0 k')).run P w0=.ok 0 w0:=rfl
  cases dx<;>first|(cases hdx;done)|(simp only[Z0l,if_false,Z2f,if_true,hlen,Z09,Z05,Z0f,Z0p,Z02,hnew])
 simp only[execOp,resolve,Z09,Z0f,Z05,invoke,builtin,Z3u,Z13,Z3d,e1,e2,hrun]
theorem RegX.cpR {dst:Option Tmp} {x0:Value} {tx:Tmp} {t tx' e:TypeId} {t':TypeId} {pos:String} {af:Array Edge} {gd:Option (Nat×Bool)} {dx:TypeDesc} {inf:TypeInfo} {zs:List S} {i g m w mm:Nat} {c:Option Nat} {cs:List S}
 (hx:cv x0=.s (.slc none mm c)) (hd:env.getD tx .undef=.s (.row i g m)) (hl:lk L i=eI e g w cs) (hlen:cs.length=m*w)
 (ht:P.underlying t=some (.slice e)) (htx:P.underlying tx'=some dx) (hdx:gY dx=true) (hi:P.info? e=some inf) (hz:dz P e=some zs) (hsz:inf.size=zs.length) (hw:inf.size=w) (hw0:0<w)
 (hnp:cs.all bM=true) (hbig:m*inf.bytes<=140737488355328) (hmax:m<=140737488355328)
 (hwant:aY ops env ⟨dst,.call ⟨.builtin .append,#[.const x0,.tmp tx],#[t,tx']⟩,t',pos,af,gd⟩=some true)
 (kk:RegX P ops d (aG d ⟨dst,.call ⟨.builtin .append,#[.const x0,.tmp tx],#[t,tx']⟩,t',pos,af,gd⟩ [i] [(n,eI e (n+1) w cs)] acc) os (a_ env dst (.s (.row n (n+1) m))) (n+2) (aw L [(n,eI e (n+1) w cs)]) R):
 RegX P ops d acc (⟨dst,.call ⟨.builtin .append,#[.const x0,.tmp tx],#[t,tx']⟩,t',pos,af,gd⟩::os) env n L R:=by
 refine RegX.op (foot:=[i]) (wr:=[(n,eI e (n+1) w cs)]) hwant ?_ aa kk
 have tdlt:tx<env.length:=by
  rcases Z0a tx env.length with h|h
  ·exact h
  ·rw[Z00,Z0b h] at hd;cases hd
 subst hw
 cases cs with
 |nil=>
  obtain rfl:m=0:=by
   rcases Nat.mul_eq_zero.1 hlen.symm with h|h
   ·exact h
   ·omega
  have hl:lk L i=none:=hl;intro φ a w0 Q hop hg hf;have g1:=hop (.const x0) (by simp[Op.operands,Call.operands]);have g2:=hop (.tmp tx) (by simp[Op.operands,Call.operands])
  replace g1:Vr φ (cv x0) (a.eval (.const x0)):=g1
  rw[hx] at g1
  replace g2:Vr φ (env.getD tx .undef) (a.eval (.tmp tx)):=g2
  rw[hd] at g2;obtain⟨_,_,e1⟩:=g1
  have e2:a.eval (.tmp tx)=.slice none 0 0:=by
   rcases g2 with ⟨_,h⟩|⟨h,_⟩
   ·exact h
   ·omega
  unfold Oper.wp;rw[xX ht htx hdx hi e1 e2,Z3q]
  have hs:vv (aw (res [i] L) [(n,eI e (n+1) inf.size [])]) (res [i] L):=λj bl hj=>by
   simp only[aw,az] at hj;split at hj
   ·cases hj
   ·exact hj
  have st:=(Stp.refl φ (res [i] L) w0)
  exact⟨φ,.slice none 0 0,rfl,.inl ⟨rfl,rfl⟩,hg.sub hs,⟨st.os,st.tape,st.output,st.size,st.keep,λj bl b hj=>st.fresh j bl b (hs j bl hj),st.zle,st.zfr⟩,λ_ _=>rfl⟩
 |cons c tl=>
  have hm:0<m:=by
   rcases Z21 m with h|h
   ·subst h;simp at hlen
   ·exact h
  have hl:lk L i=some {cells:=c::tl,ty:=e,more:=true,sym:=true,flat:=true,gh:=some (g,inf.size)}:=hl
  have e1:∀ v,(env.set tx v).getD tx .undef=v:=λv=>by simp[Z00,tdlt]
  have hopr:∀ x∈(⟨dst,.call ⟨.builtin .append,#[.const x0,.tmp tx],#[t,tx']⟩,t',pos,af,gd⟩:Oper).op.operands,VLe (ev env x) (ev (env.set tx (.s (.sla i g m))) x):=by
   intro x hx;simp only[Op.operands,Call.operands] at hx
   have hx:x=.const x0\/x=.tmp tx:=by simpa using hx
   rcases hx with rfl|rfl
   ·exact VLe.refl _
   ·show VLe (env.getD tx .undef) ((env.set tx _).getD tx .undef)
    rw[e1,hd];exact VLe.s (SLe.rowsla hm)
  have hfit:bC {cells:=[],ty:=e,flat:=false} (c::tl)=true:=by
   unfold bC
   refine Z0i.2 λx hx=>?_
   have:=Z0i.1 hnp x hx
   cases x<;>first|rfl|cases this
  have core:=dL (P:=P) (env:=env.set tx (.s (.sla i g m))) (n:=n) (L:=L) (o:=⟨dst,.call ⟨.builtin .append,#[.const x0,.tmp tx],#[t,tx']⟩,t',pos,af,gd⟩) (d:=.const x0) (x:=.tmp tx) (fl:=false) (bi:=none) (len:=0) (bl:={cells:=[],ty:=e,flat:=false}) (C:=True) (m:=m) (m0:=m) (xs:=c::tl) (cs:=c::tl) (sy:=true) (r:=m) (foot:=[i]) (D:=0+m*inf.size<=(c::tl).length/\(none:Option MapK)=none)
   rfl rfl rfl rfl rfl ht htx hdx hi hz hsz (by show eY P L e inf.size false (cv x0)=_;rw[hx];simp only[eY,hz,Z2c]) (by
    show fE L inf.size m (gT ((env.set tx _).getD tx .undef))=_;rw[e1];simp only[gT,wkS,fE,hl,Z3f]
    rw[<-hlen,Z1v]) trivial ⟨by rw[hlen];omega,rfl⟩ rfl aa an hfit (λ_=>hm) hbig hmax
  refine OpL.conv hopr (λj=>rfl) (VLe.s (SLe.slarow hm)) ?_ core;intro j bl' hj;have hj:lk (aw (res [i] L) [(n,some {cells:=c::tl,ty:=e,more:=true,sym:=true,flat:=true,gh:=some (n+1,inf.size)})]) j=some bl':=hj;show ∃ bl,lk (aw (res [i] L) [(n,some {cells:=c::tl,ty:=e,more:=true,sym:=true,gh:=some (n+1,inf.size)})]) j=some bl/\_;simp only[aw,az] at hj |-;split at hj
  ·cases hj
   rw[if_pos ‹_›];exact⟨_,rfl,rfl,λφ w b hb=>BlAt.flat (bl:={cells:=c::tl,ty:=e,more:=true,sym:=true,gh:=some (n+1,inf.size)}) hnp hb⟩
  ·rw[if_neg ‹_›]
   exact⟨bl',hj,rfl,λ_ _ _ h=>h⟩
end
structure Rk where
 t:Int
 nd:Int
 a:Int
 b:Int
def q9 (x:Rk):List S:=[.int .i64 x.t,.int .i64 x.nd,.int .i64 x.a,.int .i64 x.b]
abbrev kR (g:Nat) (K:List Rk):Option Bl:=eI 143 (g+1) 4 (K.flatMap q9)
abbrev oG (g:Nat) (O:List Ro):Bl:={cells:=O.flatMap mW,ty:=88,more:=true,sym:=true,flat:=true,gh:=some (g+1,6)}
abbrev qX (i j k m nt nl:Nat) (nx nh:Int):Bl:={cells:=[.sla i (i+1) m,.row j (j+1) nt,.row k (k+1) nl,.int .i64 nx,.int .i64 nh],ty:=93}
abbrev Bh (O:List Ro) (T:List Rt) (K:List Rk) (nx nh:Int):Hp:=[(0,some (Bg O.length T.length K.length nx nh)),(1,some (oR O)),(3,tR 3 T),(5,kR 5 K)]
abbrev rsC (O:List Ro) (T:List Rt) (K:List Rk) (nx nh:Int):Hp:=[(0,some (Bg O.length T.length K.length nx nh)),(1,some (oR O)),(3,tR 3 T),(5,kR 5 K),(7,some (qX 8 10 12 O.length T.length K.length nx nh)),(8,some (oG 8 O)),(10,tR 10 T),(12,kR 12 K)]
theorem m6 {α:Type} (g:α->List S) (h:∀ a,(g a).all bM=true):∀ l:List α,(l.flatMap g).all bM=true
 |[]=>rfl
 |a::l=>by rw[Z0g,Z1g,h a,m6 g h l];rfl
theorem qV:∀ l:List Rt,(l.flatMap qW).length=l.length*2
 |[]=>rfl
 |r::t=>by rw[Z0g,Z03,qV t,Z04];show 2+_=_;omega
theorem q8:∀ l:List Rk,(l.flatMap q9).length=l.length*4
 |[]=>rfl
 |r::t=>by rw[Z0g,Z03,q8 t,Z04];show 4+_=_;omega
theorem FO (O:List Ro) (T:List Rt) (K:List Rk) (nx nh:Int) (hO:O.length<=100000) (hT:T.length<=100000) (hK:K.length<=100000) (h0:0<O.length):FC Tryz.prog 83 [.s (.ptr (some (0,0)))] 7 (Bh O T K nx nh) (.s (.ptr (some (7,0)))) 14 (rsC O T K nx nh):=by
 have hl:=mV O;have hl2:=qV T;have hl3:=q8 K
 have hb1:(Tryz.prog.types[88]).bytes=56:=by kernel_rfl
 have hb2:(Tryz.prog.types[145]).bytes=32:=by kernel_rfl
 have hb3:(Tryz.prog.types[143]).bytes=32:=by kernel_rfl
 have hz1:(Tryz.prog.types[88]).size=6:=by kernel_rfl
 have hz2:(Tryz.prog.types[145]).size=2:=by kernel_rfl
 have hz3:(Tryz.prog.types[143]).size=4:=by kernel_rfl
 have n1:(O.flatMap mW).all bM=true:=m6 _ (λ_=>rfl) O;have n2:(T.flatMap qW).all bM=true:=m6 _ (λ_=>rfl) T;have n3:(K.flatMap q9).all bM=true:=m6 _ (λ_=>rfl) K
 have hO1:some (oR O)=eI 88 2 6 (O.flatMap mW):=by
  cases O with
  |nil=>simp at h0
  |cons x O=>rfl
 have hO2:some (oG 8 O)=eI 88 9 6 (O.flatMap mW):=by
  cases O with
  |nil=>simp at h0
  |cons x O=>rfl
 refine wW Tryz.func83 ?_;rw[show Bh O T K nx nh=[(0,some (Bg O.length T.length K.length nx nh)),(1,eI 88 2 6 (O.flatMap mW)),(3,tR 3 T),(5,kR 5 K)] by rw[<-hO1],show rsC O T K nx nh=[(0,some (Bg O.length T.length K.length nx nh)),(1,eI 88 2 6 (O.flatMap mW)),(3,tR 3 T),(5,kR 5 K),(7,some (qX 8 10 12 O.length T.length K.length nx nh)),(8,eI 88 9 6 (O.flatMap mW)),(10,tR 10 T),(12,kR 12 K)] by rw[<-hO1,<-hO2]];refine Ex.celP 0 0 (s':=.row 1 2 O.length) rfl rfl (SLe.slarow h0) rfl ?_
 repeat'(first|refine Ex.celT 7 0 (s':=.sla 8 9 O.length) rfl rfl (SLe.rowsla h0) rfl (Ex.celT 0 0 (s':=.sla 1 2 O.length) rfl rfl (SLe.rowsla h0) rfl ?_)|exact y0|refine y1 ?_|refine y2 ?_ ?_|refine y4 λh=>?_|refine RegX.cpR rfl rfl rfl hl rfl rfl rfl rfl rfl hz1 hz1 ac n1 ?_ ?_ rfl ?_|refine RegX.cpR rfl rfl rfl hl2 rfl rfl rfl rfl rfl hz2 hz2 ac n2 ?_ ?_ rfl ?_|refine RegX.cpR rfl rfl rfl hl3 rfl rfl rfl rfl rfl hz3 hz3 ac n3 ?_ ?_ rfl ?_|refine y3 ?_|exact y5|fail)
 ·rw[hb1];omega
 ·rw[hb2];omega
 ·rw[hb3];omega
 ·refine⟨.inl rfl,.s (.ptr (some (7,0))),[7,8,9,10,11,12,13],VLe.refl _,EndOK.by rfl ⟨rfl,MemP.op rfl (MemP.op rfl (MemP.op rfl ⟨rfl,MemP.op rfl (MemP.op rfl (MemP.op rfl trivial))⟩))⟩ rfl ?_ rfl rfl⟩
  generalize O.flatMap mW=c1;unfold tR kR;generalize T.flatMap qW=c2;generalize K.flatMap q9=c3
  cases c1<;>cases c2<;>cases c3<;>rfl
end Go.Proofs.YtegjgpldfgjoiaaGreatDoor
