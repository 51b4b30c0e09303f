import Derived.Test.YtegjgpldfgjoiaaGreatDoorCnD33
import Derived.Test.YtegjgpldfgjoiaaGreatDoorCnD24
set_option linter.all false
set_option maxHeartbeats 40000000
set_option maxRecDepth 100000
namespace Go.Proofs.YtegjgpldfgjoiaaGreatDoor
open Go Ab
def iA (s:By) (i:Nat):Nat:=i+((s.drop i).takeWhile kp).length
theorem mj (s:By) (i:Nat) (hi:i<=s.length) (hl0:s.length<9223372036854775807):FQ 166 [sV s,nI i] 0 [] (nI (iA s i:Nat)) 0 []:=by
 refine wW Tryz.func166 ?_
 repeat'(first|refine y1 ?_|refine y2 ?_ ?_|refine y3 ?_|exact y5|fail)
 refine cD (σ:=Nat) (λj=>[(1,nI j)]) (λ_=>[]) (λj=>j<=s.length/\iA s i=j+((s.drop j).takeWhile kp).length) (λj=>s.length-j) i rfl (λ_=>rfl) ⟨hi,rfl⟩ bc trivial ?_;rintro j ⟨hj,hE⟩
 rcases Z0a j s.length with h|h
 ·rw[Ey h] at hE
  have hl:=ep ((s.getD j 0).toNat:Int);have hd:=kw ((s.getD j 0).toNat:Int);rw[show kp (s.getD j 0)=(fa ((s.getD j 0).toNat:Int)||jy ((s.getD j 0).toNat:Int)) from rfl] at hE;generalize fa ((s.getD j 0).toNat:Int)=b1 at*;generalize jy ((s.getD j 0).toNat:Int)=b2 at*
  cases b1<;>cases b2<;>simp only[Z4m,Z41,if_true,Z3e,Z0l,if_false,Z04,Z0e] at hE
  all_goals
   repeat'(first|refine y1 ?_|refine y2 ?_ ?_|refine y4 λh=>?_|refine bt hl ?_|refine bt hd ?_|refine jE (.inl rfl) rfl ?_|refine dT (j+1) ⟨?_,?_⟩ ?_ rfl bc trivial rfl rfl (Z02 _)|refine y3 ?_|exact y5|fail)
 ·rw[Z10 h] at hE
  simp only[List.takeWhile_nil,Z0e] at hE
  repeat'(first|refine y1 ?_|refine y2 ?_ ?_|refine y4 λh=>?_|refine jE (.inl rfl) rfl ?_|refine y3 ?_|exact y5|fail)
def EE (c:UInt8):Bool:=decide (c=32\/c=9\/c=13\/c=10)
def Hj (s:By) (i:Nat):Nat:=i+((s.drop i).takeWhile EE).length
theorem Hi {s:By} {j:Nat} (hj:j<s.length):(s.drop j).takeWhile EE=if EE (s.getD j 0) then s.getD j 0::(s.drop (j+1)).takeWhile EE else []:=by
 rw[Z0k hj,List.takeWhile_cons,Z00,Z01 hj];rfl
theorem zh (s:By) (i:Nat) (hi:i<=s.length) (hl0:s.length<1000000000) (hn:∀ j,s.getD j 0≠47):FQ 135 [sV s,nI i] 0 [] (.tup [.s (.int .i64 (Hj s i:Nat)),.s (.bool true)]) 0 []:=by
 refine wW Tryz.func135 ?_
 repeat'(first|refine y1 ?_|refine y2 ?_ ?_|refine y3 ?_|exact y5|fail)
 refine cD (σ:=Nat) (λj=>[(1,nI j)]) (λ_=>[]) (λj=>j<=s.length/\Hj s i=j+((s.drop j).takeWhile EE).length) (λj=>s.length-j) i rfl (λ_=>rfl) ⟨hi,rfl⟩ bc trivial ?_;rintro j ⟨hj,hE⟩
 rcases Z0a j s.length with h|h
 ·rw[Hi h] at hE
  have hc:=hn j
  obtain⟨c,hcc⟩:∃ c,s.getD j 0=c:=⟨_,rfl⟩
  rw[hcc] at hE hc
  have hc':((s.getD j 0).toNat:Int)=(c.toNat:Int):=by rw[hcc]
  have h47: ¬c.toNat=47:=λe=>hc (Z39.1 e)
  by_cases hs:EE c=true
  ·rw[if_pos hs,Z04] at hE
   have hs:c.toNat=32\/c.toNat=9\/c.toNat=13\/c.toNat=10:=by
    unfold EE at hs;simp only[decide_eq_true_eq] at hs
    rcases hs with e|e|e|e<;>subst e<;>simp
   repeat'(first|refine y1 ?_|refine y2 ?_ ?_|refine y4 λh=>?_|refine y3 ?_|exact y5|fail)
   all_goals exact dT (j+1) ⟨aa,aa⟩ aa rfl ⟨bp (congrArg nI (by push_cast;omega)),trivial⟩ trivial rfl rfl (Z02 _)
  ·rw[if_neg hs,Z0e] at hE
   have hs: ¬c.toNat=32/\ ¬c.toNat=9/\ ¬c.toNat=13/\ ¬c.toNat=10:=by
    unfold EE at hs;simp only[decide_eq_true_eq,not_or] at hs;obtain⟨a1,a2,a3,a4⟩:=hs;exact⟨λe=>a1 (Z39.1 e),λe=>a2 (Z39.1 e),λe=>a3 (Z39.1 e),λe=>a4 (Z39.1 e)⟩
   rw[hE,Z0p]
   repeat'(first|refine y1 ?_|refine y2 ?_ ?_|refine y4 λh=>?_|refine y3 ?_|exact y5|fail)
   all_goals exact g_ (.inl rfl) rfl rfl rfl
 ·rw[Z10 h] at hE
  simp only[List.takeWhile_nil,Z0e] at hE;rw[hE,Z0p]
  repeat'(first|refine y1 ?_|refine y2 ?_ ?_|refine y4 λh=>?_|refine y3 ?_|exact y5|fail)
  all_goals exact g_ (.inl rfl) rfl rfl rfl
theorem xI (s:By) (i:Nat) (hi:i<s.length) (hl0:s.length<1000000000) (h1:fa ((s.getD i 0).toNat:Int)=true) (h2:aN ((s.take (iA s i)).drop i)=true) (h3:iA s i<s.length) (h4:s.getD (iA s i) 0≠46):FQ 202 [sV s,nI i] 0 [] (nI (iA s i:Nat)) 0 []:=by
 have hl:=ep ((s.getD i 0).toNat:Int);rw[h1] at hl;have hid:=mj s i aa aa
 have hc:(97<=((s.getD i 0).toNat:Int)/\((s.getD i 0).toNat:Int)<=122\/65<=((s.getD i 0).toNat:Int)/\((s.getD i 0).toNat:Int)<=90\/((s.getD i 0).toNat:Int)=95):=by unfold fa at h1;simpa using h1
 have h46: ¬((s.getD (iA s i) 0).toNat:Int)=46:=λe=>h4 (Z39.1 (by have:(46:UInt8).toNat=46:=rfl;omega))
 have hle:i<=iA s i:=Z1o _ _;have hsg:=iS ((s.take (iA s i)).drop i) (by simp only[Z19,Z1u];omega);rw[h2] at hsg;generalize iA s i=k at*;refine wW Tryz.func202 ?_
 repeat'(first|refine y1 ?_|refine y2 ?_ ?_|refine y4 λh=>?_|refine bt hl ?_|refine an hid ?_|refine bt hsg ?_|refine Ex.unroll 1 ?_|refine y3 ?_|exact y5|fail)
 all_goals exact g_ (.inl rfl) rfl rfl rfl
structure Tk where
 kind:Int
 int:Int
 str:By
 pos:Int
def Cs (t:Tk):List S:=[.int .i64 t.kind,.int .u64 t.int,.str t.str,.int .i64 t.pos]
def GX (t:Tk) (k:Int):V:=.tup [.agg (Cs t),.s (.int .i64 k)]
def um (z:Int):Int:=if z=40 then 5 else if z=41 then 6 else if z=123 then 7 else if z=125 then 8 else if z=44 then 9 else 0
theorem Hn (z:Int):FQ 206 [n8 z] 0 [] (nI (um z)) 0 []:=by
 unfold um;refine wW Tryz.func206 ?_
 repeat'(first|refine y1 ?_|refine y2 ?_ ?_|refine y4 λh=>?_|refine jE (.inl rfl) rfl ?_|refine y3 ?_|exact y5|fail)
theorem Dr (s:By) (i:Nat) (hi:i<s.length) (hl0:s.length<1000000000) (h1:fa ((s.getD i 0).toNat:Int)=true) (h2:oJ ((s.take (iA s i)).drop i)=true) (h3:iA s i<=i+32) (h4:iA s i<=s.length):
 FQ 136 [sV s,nI i] 0 [] (GX ⟨2,0,(s.take (iA s i)).drop i,i⟩ (iA s i:Nat)) 0 []:=by
 have hl:=ep ((s.getD i 0).toNat:Int);rw[h1] at hl;have hid:=mj s i aa aa;have hle:i<=iA s i:=Z1o _ _;have hlo:=qj ((s.take (iA s i)).drop i) (by simp only[Z19,Z1u];omega);rw[h2] at hlo;generalize iA s i=k at*;refine wW Tryz.func136 ?_
 repeat'(first|refine y1 ?_|refine y2 ?_ ?_|refine y4 λh=>?_|refine bt hl ?_|refine an hid ?_|refine bt hlo ?_|refine y3 ?_|exact y5|fail)
 all_goals exact g_ (.inl rfl) rfl rfl rfl
theorem Dq (s:By) (i:Nat) (hi:i<s.length) (hl0:s.length<1000000000) (h1:fa ((s.getD i 0).toNat:Int)=true) (h2:oJ ((s.take (iA s i)).drop i)=false) (h5:aN ((s.take (iA s i)).drop i)=true) (h3:iA s i<s.length) (h4:s.getD (iA s i) 0≠46):
 FQ 136 [sV s,nI i] 0 [] (GX ⟨1,0,(s.take (iA s i)).drop i,i⟩ (iA s i:Nat)) 0 []:=by
 have hne:=xI s i hi hl0 h1 h5 h3 h4;have hl:=ep ((s.getD i 0).toNat:Int);rw[h1] at hl;have hid:=mj s i aa aa;have hle:i<=iA s i:=Z1o _ _;have hlo:=qj ((s.take (iA s i)).drop i) (by simp only[Z19,Z1u];omega);rw[h2] at hlo;generalize iA s i=k at*;refine wW Tryz.func136 ?_
 repeat'(first|refine y1 ?_|refine y2 ?_ ?_|refine y4 λh=>?_|refine bt hl ?_|refine an hid ?_|refine bt hlo ?_|refine an hne ?_|refine y3 ?_|exact y5|fail)
 all_goals exact g_ (.inl rfl) rfl rfl rfl
theorem Ds (s:By) (i:Nat) (v:Int) (hi:i<s.length) (hl0:s.length<1000000000) (h1:fa ((s.getD i 0).toNat:Int)=false) (h2:jy ((s.getD i 0).toNat:Int)=true) (h4:iA s i<=s.length) (hv:FQ 204 [sV ((s.take (iA s i)).drop i)] 0 [] (.tup [.s (.int .u64 v),.s (.bool true)]) 0 []):
 FQ 136 [sV s,nI i] 0 [] (GX ⟨3,v,[],i⟩ (iA s i:Nat)) 0 []:=by
 have hl:=ep ((s.getD i 0).toNat:Int);rw[h1] at hl;have hd:=kw ((s.getD i 0).toNat:Int);rw[h2] at hd
 have hc:48<=((s.getD i 0).toNat:Int)/\((s.getD i 0).toNat:Int)<=57:=by unfold jy at h2;simpa using h2
 have hid:=mj s i aa aa;have hle:i<=iA s i:=Z1o _ _;generalize iA s i=k at*;refine wW Tryz.func136 ?_
 repeat'(first|refine y1 ?_|refine y2 ?_ ?_|refine y4 λh=>?_|refine bt hl ?_|refine bt hd ?_|refine an hid ?_|refine an hv ?_|refine y3 ?_|exact y5|fail)
 all_goals exact g_ (.inl rfl) rfl rfl rfl
theorem Dp (s:By) (i:Nat) (c:Int) (hi:i<s.length) (hl0:s.length<1000000000) (hc:((s.getD i 0).toNat:Int)=c) (h0:c=40\/c=41\/c=123\/c=125\/c=44):
 FQ 136 [sV s,nI i] 0 [] (GX ⟨um c,0,[],i⟩ ((i:Int)+1)) 0 []:=by
 have hl:=ep ((s.getD i 0).toNat:Int);rw[show fa ((s.getD i 0).toNat:Int)=false by unfold fa;rw[hc];simp;omega] at hl;have hd:=kw ((s.getD i 0).toNat:Int);rw[show jy ((s.getD i 0).toNat:Int)=false by unfold jy;rw[hc];simp;omega] at hd;have hp:=Hn ((s.getD i 0).toNat:Int);rw[hc] at hp
 have hpz:0<um c:=by unfold um;repeat' split<;>omega
 generalize um c=k at*;refine wW Tryz.func136 ?_
 repeat'(first|refine y1 ?_|refine y2 ?_ ?_|refine y4 λh=>?_|refine bt hl ?_|refine bt hd ?_|(refine wX ?_;refine oz hp rfl ⟨bp (congrArg (λz=>V.s (S.int .u8 z)) hc),trivial⟩ rfl rfl rfl ?_)|refine y3 ?_|exact y5|fail)
 all_goals exact g_ (.inl rfl) rfl rfl rfl
inductive TokS (s:By):Nat->List Tk->Prop
 |nil {i:Nat} (hi:i<=s.length) (hs:Hj s i=s.length):TokS s i []
 |cons {i j k:Nat} {t:Tk} {ts:List Tk} (hi:i<=s.length) (hj:Hj s i=j) (hlt:j<s.length) (hit:FQ 136 [sV s,nI j] 0 [] (GX t (k:Nat)) 0 []) (r:TokS s k ts):TokS s i (t::ts)
def lW:Tk:=⟨0,0,[],0⟩
def Hd (ts:List Tk):S:=.frz (λk=>Cs (ts.getD k lW)) 4 ts.length
theorem CJ {a:Tk} {j:Nat} {x:S} (h:(Cs a)[j]? =some x):bL x=true:=by
 rcases j with _|_|_|_|j
 ·cases h;rfl
 ·cases h;rfl
 ·cases h;rfl
 ·cases h;rfl
 ·simp[Cs] at h
theorem vI:∀ l:List Tk,(l.flatMap Cs).length=l.length*4
 |[]=>rfl
 |r::t=>by rw[Z0g,Z03,vI t,Z04];show 4+_=_;omega
theorem Fw (s:By) (ts:List Tk) (hT:TokS s 0 ts) (hl0:s.length<=65536) (hn:∀ j,s.getD j 0≠47) (hts:ts.length<=100000):FQ 80 [sV s] 0 [] (.tup [.s (Hd ts),.s (.int .i64 0),.s (.int .i64 0)]) 0 []:=by
 have hsz:(Tryz.prog.types[154]).size=4:=bd;have hby:(Tryz.prog.types[154]).bytes=40:=bd;refine wW Tryz.func80 ?_
 repeat'(first|refine y1 ?_|refine y2 ?_ ?_|refine y4 λh=>?_|refine y3 ?_|exact y5|fail)
 refine fN 5 (.s (.row 0 1 0)) (VLe.s SLe.nilrow) rfl (Ex.upN (n':=2) aa ?_);refine cD (σ:=List Tk×Nat×List Tk) (λq=>[(5,.s (.row 0 1 q.1.length)),(6,nI q.2.1)]) (λq=>[(0,g9 154 1 4 (q.1.flatMap Cs))]) (λq=>q.1++q.2.2=ts/\TokS s q.2.1 q.2.2) (λq=>q.2.2.length) ([],0,ts) rfl (λ_=>rfl) ⟨rfl,hT⟩ bc trivial ?_;rintro⟨D,i,r⟩ ⟨h1,h2⟩;simp only at h1 h2 |-
 cases h2 with
 |nil hi hs=>
  rw[Z0u] at h1;subst h1;have hsk:=zh s i hi aa hn;rw[hs] at hsk
  repeat'(first|refine y1 ?_|refine y2 ?_ ?_|refine y4 λh=>?_|refine an hsk ?_|refine Ex.fzR 2 Cs 4 lW D rfl rfl (λ_=>rfl) (λa j x h=>CJ h) ac rfl rfl ?_|refine cW (.inl rfl) rfl (ah _) rfl|refine y3 ?_|exact y5|fail)
 | @cons _ j k t ts' hi hj hlt hit r=>
   have hlen:D.length+(ts'.length+1)=ts.length:=by rw[<-h1];simp
   have hsk:=zh s i hi aa hn;rw[hj] at hsk
   repeat'(first|refine y1 ?_|refine y2 ?_ ?_|refine y4 λh=>?_|refine an hsk ?_|refine an hit ?_|refine jC (i:=0) (g:=1) (m:=D.length) (w:=4) (cs:=D.flatMap Cs) (foot:=[3]) (k:=1) (add:=Cs t) rfl rfl (vI D) rfl rfl rfl rfl rfl rfl rfl hsz ac rfl ⟨Z02 _,rfl⟩ ac (by simp[Cs]) rfl (by rw[hby];omega) aa rfl ?_|refine y3 ?_|exact y5|fail)
   refine fq (D++[t],k,ts') ⟨by simpa using h1,r⟩ (by simp only[Z04];omega) [4,5] rfl ?_ ?_ ?_
   ·repeat'(first|exact ah _|exact cT _|exact Z0o|(refine bp (congrArg V.s (?_:S.row 4 5 _=S.row 4 5 _));simp;done)|refine⟨?_,?_⟩)
   ·refine bN ?_ trivial
    rw[Z0r,Z0g,List.flatMap_nil,Z0u];rfl
   ·generalize List.flatMap _ _=cg
    cases cg<;>rfl
abbrev nB (g:Nat) (D:List Nd):Option Bl:=g9 49 (g+1) 4 (D.flatMap ndC)
abbrev pX (a b:Nat) (ts:List Tk) (i m:Nat):Bl:={cells:=[Hd ts,.int .i64 (i:Nat),.row a b m,.int .i64 (-1)],ty:=151}
abbrev FE (ts:List Tk) (i:Nat) (out:List Nd):Hp:=[(0,some (pX 1 2 ts i out.length)),(1,nB 1 out)]
abbrev rZ (ts:List Tk) (i:Nat) (out:List Nd):Hp:=[(0,some (pX 3 4 ts i out.length)),(1,none),(3,nB 3 out)]
abbrev G5 (ts:List Tk) (i m:Nat):Hp:=[(0,some (pX 1 2 ts i m))]
abbrev Ct (ts:List Tk) (i:Nat):Int:=(ts.getD i lW).kind
theorem j8:∀ l:List Nd,(l.flatMap ndC).length=l.length*4
 |[]=>rfl
 |r::t=>by rw[Z0g,Z03,j8 t,Z04];show 4+_=_;omega
theorem fH {ts:List Tk} {i:Nat} {out:List Nd}:e_ 3 (FE ts i out)=true:=by
 unfold FE nB;generalize List.flatMap ndC out=cg
 cases cg<;>rfl
theorem FM {ts:List Tk} {i:Nat} {out:List Nd}:e_ 5 (rZ ts i out)=true:=by
 unfold rZ nB;generalize List.flatMap ndC out=cg
 cases cg<;>rfl
section
variable {P:Program} {fn:Func} {env:List V} {ts:List Tk} {i i':Nat} {out out':List Nd} {v v':V} {e:Exit} {M:Hp} {m:Nat}
theorem Fin.p5 (c:Nat) (v':V) (hx:e=.ret\/e=.normal) (h0:lk M 0=some (pX c (c+1) ts i out.length)) (h1:lk M c=nB c out) (hr:gU P fn env M=some (bO (rn (List.range 3++[c,c+1]) 0) v')) (hv:VLe v' v) (hk:eH 5 v'=true) (hn:bZ (List.range 3++[c,c+1])=true):Fin P fn 3 v 5 (rZ ts i out) e env m M:=
 ⟨hx,v',[c,c+1],hv,hY hr ⟨h0,bN h1 trivial⟩ hk FM rfl hn⟩
end
theorem uH (ts:List Tk) (i m:Nat) (hts:ts.length<=100000):FQ 142 [.s (.ptr (some (0,0)))] 3 (G5 ts i m) (nI (Ct ts i)) 3 (G5 ts i m):=by
 refine wW Tryz.func142 ?_;by_cases h:i<ts.length
 ·
  repeat'(first|refine yA ?_|refine y2 ?_ ?_|refine y4 λh=>?_|exact y5|fail)
  exact bD
 ·have e:Ct ts i=0:=by rw[Ct,Z00,Z0b aa];rfl
  rw[e]
  repeat'(first|refine yA ?_|refine y2 ?_ ?_|refine y4 λh=>?_|exact y5|fail)
  exact bD
theorem mN (ts:List Tk) (i m:Nat) (k:Int) (hts:ts.length<=100000) (hi:i<ts.length) (hk:Ct ts i=k):FQ 209 [.s (.ptr (some (0,0))),nI k] 3 (G5 ts i m) .any 3 (G5 ts (i+1) m):=by
 have hkd:=uH ts i m hts;rw[hk] at hkd;refine wW Tryz.func209 ?_
 repeat'(first|refine yA ?_|refine y2 ?_ ?_|refine y4 λh=>?_|refine wX (eO [0,1,2] hkd ?_)|exact y5|fail)
 exact⟨.inr rfl,.tup [],[],cT _,hY rfl ⟨rfl,trivial⟩ rfl rfl rfl rfl⟩
theorem B6 (ts:List Tk) (i:Nat) (out:List Nd) (x:Nd) (ho:out.length<=100000):FQ 140 [.s (.ptr (some (0,0))),HF x] 3 (FE ts i out) (nI out.length) 5 (rZ ts i (out++[x])):=by
 have hsz:(Tryz.prog.types[49]).size=4:=bd;have hby:(Tryz.prog.types[49]).bytes=40:=bd;refine wW Tryz.func140 ?_
 repeat'(first|refine y1 ?_|refine y2 ?_ ?_|refine jC (i:=1) (g:=2) (m:=out.length) (w:=4) (cs:=out.flatMap ndC) (foot:=[4]) (k:=1) (add:=ndC x) rfl rfl (j8 out) rfl rfl rfl rfl rfl rfl rfl hsz ac rfl ⟨Z02 _,rfl⟩ ac (by simp[ndC]) rfl (by rw[hby];omega) aa rfl ?_|refine y3 ?_|exact y5|fail)
 refine Fin.p5 5 _ (.inl rfl) ?_ ?_ rfl (bp (congrArg nI (by push_cast;omega))) rfl rfl
 ·rw[Z03];rfl
 ·rw[nB,Z0r,Z0g,List.flatMap_nil,Z0u];rfl
def pI (s:By):List Rw->Rw×Bool
 |[]=>(dR,false)
 |r::t=>if r.2.1=s then (r,true) else pI s t
theorem yF (s:By):FQ 208 [sV s] 0 [] (.tup [.agg (tU (pI s rowsL).1),.s (.bool (pI s rowsL).2)]) 0 []:=by
 refine wW Tryz.func208 ?_;have hl:rowsL.length=56:=rfl;generalize hR:pI s rowsL=R
 repeat'(first|refine yA ?_|refine y2 ?_ ?_|refine an zk ?_|exact y5|fail)
 generalize rowsL=rl at*;refine cD (σ:=Nat) (λj=>[(5,nI j)]) (λ_=>[(0,some {cells:=[.int .i64 0,.str [],.str []],ty:=207})]) (λj=>j<=56/\pI s (rl.drop j)=R) (λj=>56-j) 0 rfl (λ_=>rfl) ⟨Z08 _,hR⟩ bc ⟨rfl,trivial⟩ ?_;rintro j ⟨hj,hI⟩;by_cases h:j<56
 ·have hd:rl.drop j=rl.getD j dR::rl.drop (j+1):=by
   rw[Z0k aa,Z00,Z01 aa];rfl
  rw[hd] at hI;simp only[pI] at hI;by_cases ho:(rl.getD j dR).2.1=s
  ·rw[if_pos ho] at hI
   subst hI
   repeat'(first|refine y1 ?_|refine y2 ?_ ?_|refine y4 λh=>?_|refine g_ (.inl rfl) rfl ?_ rfl|refine y3 ?_|exact y5|fail)
  ·rw[if_neg ho] at hI
   repeat'(first|refine yA ?_|refine y2 ?_ ?_|refine y4 λh=>?_|exact y5|fail)
   refine dT (j+1) ⟨aa,hI⟩ aa rfl bc ⟨rfl,trivial⟩ rfl rfl ac
 ·rw[Z10 aa] at hI
  subst hI
  repeat'(first|refine y1 ?_|refine y2 ?_ ?_|refine y4 λh=>?_|refine g_ (.inl rfl) rfl ?_ rfl|refine y3 ?_|exact y5|fail)
theorem z_ (s w:By) (n:Int) (hs:s.length<=1000) (hw:w.length<=1000) (h: ¬(s.length=w.length+1/\s.take w.length=w)):FQ 207 [sV s,sV w,nI n] 0 [] (nI (-1)) 0 []:=by
 refine wW Tryz.func207 ?_;by_cases h1:s.length=w.length+1
 ·have h2: ¬s.take w.length=w:=λe=>h ⟨h1,e⟩
  repeat'(first|refine y1 ?_|refine y2 ?_ ?_|refine y4 λh=>?_|refine jE (.inl rfl) rfl rfl|refine y3 ?_|exact y5|fail)
 ·
  repeat'(first|refine y1 ?_|refine y2 ?_ ?_|refine y4 λh=>?_|refine jE (.inl rfl) rfl rfl|refine y3 ?_|exact y5|fail)
abbrev pH (ts:List Tk) (i m:Nat) (x:Nd):Prop:=FQ 137 [.s (.ptr (some (0,0)))] 3 (G5 ts i m) (HF x) 3 (G5 ts i m)
theorem Dh (ts:List Tk) (i m:Nat) (hts:ts.length<=100000) (hi:i<ts.length) (hk:(ts.getD i lW).kind=3):pH ts i m ⟨1,(ts.getD i lW).int,[],0⟩:=by
 refine wW Tryz.func137 ?_
 repeat'(first|refine yA ?_|refine y2 ?_ ?_|refine y4 λh=>?_|exact y5|fail)
 all_goals exact bD
theorem Df (ts:List Tk) (i m:Nat) (hts:ts.length<=100000) (hi:i<ts.length) (hk:(ts.getD i lW).kind=1) (hl:(ts.getD i lW).str.length<=1000) (hp:(ak (ts.getD i lW).str).2=true):pH ts i m ⟨3,0,(ts.getD i lW).str,0⟩:=by
 have hpr:=io (ts.getD i lW).str aa
 rcases hq:ak (ts.getD i lW).str with ⟨q,ok⟩
 rw[hq] at hpr hp;simp only at hp;subst hp;refine wW Tryz.func137 ?_
 repeat'(first|refine yA ?_|refine y2 ?_ ?_|refine y4 λh=>?_|refine an hpr ?_|exact y5|fail)
 all_goals exact bD
theorem Dg (ts:List Tk) (i m:Nat) (hts:ts.length<=100000) (hi:i<ts.length) (hk:(ts.getD i lW).kind=2) (hl:(ts.getD i lW).str.length<=1000) (h1: ¬((ts.getD i lW).str.length=6/\(ts.getD i lW).str.take 5=[76,111,99,97,108])) (h2: ¬((ts.getD i lW).str.length=4/\(ts.getD i lW).str.take 3=[65,114,103])) (op:Int) (ho:(pI (ts.getD i lW).str rowsL).1.1=op):pH ts i m ⟨op,0,[],0⟩:=by
 have hw:=yF (ts.getD i lW).str;have hn1:=z_ (ts.getD i lW).str [76,111,99,97,108] 8 hl ac h1;have hn2:=z_ (ts.getD i lW).str [65,114,103] 7 hl ac h2;subst ho;generalize pI (ts.getD i lW).str rowsL=r at*;refine wW Tryz.func137 ?_
 repeat'(first|refine yA ?_|refine y2 ?_ ?_|refine y4 λh=>?_|refine an hw ?_|refine an hn1 ?_|refine an hn2 ?_|exact y5|fail)
 all_goals exact bD
abbrev iP (ts:List Tk) (k:Int) (i:Nat) (out:List Nd) (i':Nat) (out':List Nd):Prop:=FQ 81 [.s (.ptr (some (0,0))),n8 k] 3 (FE ts i out) .any 5 (rZ ts i' out')
theorem o7 (ts:List Tk) (k:Int) (i:Nat) (out:List Nd) (x:Nd) (hts:ts.length<=100000) (hi:i<ts.length) (ho:out.length<=100000) (hx:pH ts i out.length x) (hop:x.op=1\/x.op=3) (hk:k≠83/\k≠101) (hp:bn k x.op=true) (hs:k=115->aN x.str=true) (hl:x.str.length<=1000):iP ts k i out (i+1) (out++[x]):=by
 have hpe:=mX k x.op;rw[hp] at hpe;have hsi:=rz x.str aa;have had:=B6 ts (i+1) out x ho;have hol:(out++[x]).length=out.length+1:=av;obtain⟨h83,h101⟩:=hk;obtain⟨op,int,str,kids⟩:=x;simp only at hop hl hs hpe hsi;by_cases h115:k=115
 ·rw[hs h115] at hsi
  rcases hop with rfl|rfl
  all_goals
   refine wW Tryz.func81 ?_
   repeat'(first|refine yA ?_|refine y2 ?_ ?_|(refine y4 λh=>?_;try(first|(first|contradiction|(exfalso;omega)|(exfalso;simp at h;done))|exact y6))|refine bt hpe ?_|refine bt hsi ?_|refine wX (eO [0,1,2] hx ?_)|(refine wX ?_;refine ja [0,1,2] had ?_ (wr:=[(0,some (pX 4 5 ts (i+1) (out++[_]).length)),(1,none),(4,nB 4 (out++[_]))]) (k2:=fH))|exact y5|fail)
   all_goals exact Fin.p5 4 (.tup []) (.inr rfl) rfl rfl rfl (cT _) rfl rfl
 ·rcases hop with rfl|rfl
  all_goals
   refine wW Tryz.func81 ?_
   repeat'(first|refine yA ?_|refine y2 ?_ ?_|(refine y4 λh=>?_;try(first|(first|contradiction|(exfalso;omega)|(exfalso;simp at h;done))|exact y6))|refine bt hpe ?_|refine wX (eO [0,1,2] hx ?_)|(refine wX ?_;refine ja [0,1,2] had ?_ (wr:=[(0,some (pX 4 5 ts (i+1) (out++[_]).length)),(1,none),(4,nB 4 (out++[_]))]) (k2:=fH))|exact y5|fail)
   all_goals exact Fin.p5 4 (.tup []) (.inr rfl) rfl rfl rfl (cT _) rfl rfl
section
variable {P:Program} {b:Nat} {env:List V} {n:Nat} {L:Hp} {R:Post}
theorem Ex.celP {c:Code} (j o:Nat) {s s':S} {bl:Bl} (hl:lk L j=some bl) (ho:bl.cells[o]? =some s) (hle:SLe s s') {L':Hp} (hL:put L j (some {bl with cells:=bl.cells.set o s'})=L') (k:Ex P b c env n L' R):Ex P b c env n L R:=by
 subst hL;refine Ex.subF (λi bl' hi=>?_) k;rw[aE] at hi;split at hi
 ·rename_i e;subst e;cases hi
  refine⟨bl,hl,rfl,λφ w c h=>?_⟩;obtain⟨pre,xs,rest,fr,h1,hp,h2,h3,h4,h5⟩:=h;exact⟨pre,xs,rest,fr,h1,hp,fj h2 (λx hx=>hle _ _ (gO h2 ho hx)),h3,h4,h5⟩
 ·exact⟨bl',hi,rfl,λ_ _ _ h=>h⟩
theorem Ex.celR (id:Nat) {ops:Array Oper} {d:Bool} (j o:Nat) {s s':S} {bl:Bl} (hl:lk L j=some bl) (ho:bl.cells[o]? =some s) (hle:SLe s s') {L':Hp} (hL:put L j (some {bl with cells:=bl.cells.set o s'})=L') (k:Ex P b (.region id ops d) env n L' R):Ex P b (.region id ops d) env n L R:=Ex.celP j o hl ho hle hL k
end
theorem sF {p:List Nd} {k:Nat} {z:Int} (hk:k<p.length):bW (p.flatMap ndC) (k*4+3) [.int .i64 z]=(p.set k {p.getD k dN with kids:=z}).flatMap ndC:=jL (g:=ndC) (d:=dN) (λ_=>rfl) av hk rfl
abbrev oM (out:List Nd) (at_:Nat) (z:Int):List Nd:=out.set at_ {out.getD at_ dN with kids:=z}
theorem vZ {g:Nat} {q:List Nd} (h:0<q.length):nB g q=some {cells:=q.flatMap ndC,ty:=49,more:=true,sym:=true,flat:=true,gh:=some (g+1,4)}:=by
 cases q with
 |nil=>exact absurd h (Z40 0)
 |cons x q=>rfl
abbrev vx (ts:List Tk) (k:Int) (i:Nat) (out:List Nd) (i':Nat) (out':List Nd):Prop:=FQ 144 [.s (.ptr (some (0,0))),n8 k] 3 (FE ts i out) .any 5 (rZ ts i' out')
inductive ArgS (ts:List Tk):By->Bool->Nat->List Nd->Nat->List Nd->Prop
 |nil {b:Bool} {i:Nat} {out:List Nd}:ArgS ts [] b i out i out
 |cons {k:UInt8} {ks:By} {b:Bool} {i j i1 i2:Nat} {out out1 out2:List Nd} (hk:qM (k.toNat:Int)=false) (hc:b=false->j=i+1/\Ct ts i=9/\i<ts.length) (hc':b=true->j=i) (hn:iP ts (k.toNat:Int) j out i1 out1) (r:ArgS ts ks false i1 out1 i2 out2):ArgS ts (k::ks) b i out i2 out2
inductive BlkS (ts:List Tk):By->Nat->List Nd->Nat->List Nd->Prop
 |nil {i:Nat} {out:List Nd}:BlkS ts [] i out i out
 |cons {k:UInt8} {ks:By} {i i1 i2:Nat} {out out1 out2:List Nd} (hk:qM (k.toNat:Int)=true) (hn:vx ts (k.toNat:Int) i out i1 out1) (r:BlkS ts ks i1 out1 i2 out2):BlkS ts (k::ks) i out i2 out2
theorem nX (ts:List Tk) (hts:ts.length<=100000) (as_ bs:By) (hl:(as_++bs).length<=100) (at_:Nat) (i i1 i':Nat) (out out1 out':List Nd) (ha:at_<out.length) (ho:out.length<=100000) (h5:Ct ts i=5) (hi:i<ts.length) (hA:ArgS ts as_ true (i+1) (oM out at_ (as_++bs).length) i1 out1) (h6:Ct ts i1=6) (hi1:i1<ts.length) (hB:BlkS ts bs (i1+1) out1 i' out'):
 FQ 143 [.s (.ptr (some (0,0))),nI at_,sV (as_++bs)] 3 (FE ts i out) .any 5 (rZ ts i' out'):=by
 obtain⟨x0,o,rfl⟩:∃ x0 o,out=x0::o:=by
  cases out with
  |nil=>exact absurd ha (Z1m _)
  |cons x0 o=>exact⟨x0,o,rfl⟩
 have hsz:(Tryz.prog.types[49]).size=4:=bd;have hks:bW ((x0::o).flatMap ndC) (at_*4+3) [.int .i64 ((as_++bs).length:Nat)]=(oM (x0::o) at_ (as_++bs).length).flatMap ndC:=sF ha
 have hkl:(oM (x0::o) at_ (as_++bs).length).length=o.length+1:=by simp[oM]
 generalize oM (x0::o) at_ (as_++bs).length=q at*;have ht:=mN ts i (o.length+1) 5 hts hi h5;generalize hll:as_++bs=l at*;refine wW Tryz.func143 ?_;refine Ex.celP 0 2 (s':=.sla 1 2 (o.length+1)) rfl rfl (SLe.rowsla (Z1n _)) rfl ?_
 repeat'(first|refine Ex.celR 1 0 2 (s':=.row 1 2 (o.length+1)) rfl rfl (SLe.slarow (Z1n _)) rfl ?_|refine y1 ?_|refine y2 ?_ ?_|refine wX (eO [0,1,2] ht ?_)|refine RegX.sto [.cells (q.flatMap ndC)] rfl rfl ⟨?_,?_⟩ rfl ?_|refine y3 ?_|exact y5|fail)
 ·rw[hsz,aL,aL,bB,Z0c]
  show at_*4+3+1<=((x0::o).flatMap ndC).length;rw[j8];omega
 ·rw[hsz,aL,aL,bB,Z0c];exact hks.symm
 have hq:nB 1 q=some {cells:=q.flatMap ndC,ty:=49,more:=true,sym:=true,flat:=true,gh:=some (2,4)}:=vZ aa;refine Cy [0,1,2,1,2] 67 [(0,.s (.ptr (some (0,0)))),(1,nI at_),(2,sV l),(6,nI 0)] [(0,some (pX 3 4 ts (i+1) q.length)),(3,nB 3 q)] rfl rfl ⟨ah _,ah _,ah _,ah _,trivial⟩ ⟨by rw[hkl];rfl,bN hq.symm trivial⟩ (by unfold nB;generalize List.flatMap _ _=cg;cases cg<;>rfl) ?_;refine cD (σ:=By×By×Nat×List Nd) (λs=>[(6,nI s.1.length)]) (λs=>[(0,some (pX 3 4 ts s.2.2.1 s.2.2.2.length)),(3,nB 3 s.2.2.2)]) (λs=>s.1++s.2.1=as_/\ArgS ts s.2.1 s.1.isEmpty s.2.2.1 s.2.2.2 i1 out1) (λs=>s.2.1.length) ([],as_,i+1,q) rfl (λ_=>rfl) ⟨rfl,hA⟩ bc ⟨rfl,iN rfl trivial⟩ ?_;clear hA hks hkl hq ht;rintro⟨D,R,j,u⟩ ⟨d1,d2⟩;simp only at d1 d2 |-
 cases d2 with
 |nil=>
  rw[Z0u] at d1;subst d1
  have hbl:D.length<l.length->qM ((l.getD D.length 0).toNat:Int)=true:=λh=>by
   subst hll
   cases hB with
   |nil=>simp at h
   | @cons k _ _ _ _ _ _ _ hk _ _=>
     rw[show (D++k::_).getD D.length 0=k by simp];exact hk
  have hbk:=qL ((l.getD D.length 0).toNat:Int);have ht:=mN ts i1 out1.length 6 hts hi1 h6
  repeat'(first|refine yA ?_|refine y2 ?_ ?_|(refine y4 λh=>?_;try(first|(first|contradiction|(exfalso;omega)|(rw[hbl aa] at h;cases h))|exact y6))|refine bt hbk ?_|refine wX (eO [0,3,4] ht ?_)|exact y5|fail)
  all_goals
   refine cD (σ:=By×By×Nat×List Nd) (λs=>[(6,nI s.1.length)]) (λs=>[(0,some (pX 3 4 ts s.2.2.1 s.2.2.2.length)),(3,nB 3 s.2.2.2)]) (λs=>s.1++s.2.1=l/\BlkS ts s.2.1 s.2.2.1 s.2.2.2 i' out') (λs=>s.2.1.length) (D,bs,i1+1,out1) rfl (λ_=>rfl) ⟨hll,hB⟩ bc ⟨rfl,iN rfl trivial⟩ ?_;clear hB hll hbl hbk ht;rintro⟨D,R,j,u⟩ ⟨d1,d2⟩;simp only at d1 d2 |-
   cases d2 with
   |nil=>
    rw[Z0u] at d1;subst d1
    repeat'(first|refine yA ?_|refine y2 ?_ ?_|refine y4 λh=>?_|exact y5|fail)
    exact Fin.p5 3 (.tup []) (.inr rfl) rfl rfl rfl (cT _) rfl rfl
   | @cons k R' _ i2 _ _ u1 _ hk hn r=>
     have hget:l.getD D.length 0=k:=by rw[<-d1];simp
     have hlen:D.length<l.length:=by rw[<-d1];simp
     repeat'(first|refine yA ?_|refine y2 ?_ ?_|refine y4 λh=>?_|(refine wX ?_;refine ja [0,3,4] hn ?_ (wr:=[(0,some (pX 5 6 ts i2 u1.length)),(3,none),(5,nB 5 u1)]) (k2:=fH) (hle:=by exact⟨ah _,bp (congrArg (λz:UInt8=>V.s (S.int .u8 (z.toNat:Int))) hget),trivial⟩))|exact y5|fail)
     refine fq (D++[k],R',i2,u1) ⟨?_,?_⟩ (by simp only[Z04];omega) [0,1,2,5,6] rfl ?_ ?_ ?_
     ·rw[<-d1];simp
     ·exact r
     ·repeat'(first|exact ah _|exact cT _|exact Z0o|exact bp (congrArg nI av)|refine⟨?_,?_⟩)
     ·exact⟨rfl,bN rfl trivial⟩
     ·unfold nB
      generalize List.flatMap _ _=cg
      cases cg<;>rfl
 | @cons k R' _ _ j' i2 _ _ u1 _ hk hc hc' hn r=>
   have hget:l.getD D.length 0=k:=by rw[<-hll,<-d1];simp
   have hlen:D.length<l.length:=by rw[<-hll,<-d1];simp
   have hbk:=qL ((l.getD D.length 0).toNat:Int);rw[show qM ((l.getD D.length 0).toNat:Int)=false by rw[hget];exact hk] at hbk
   cases D with
   |nil=>
    obtain rfl:=hc' rfl
    repeat'(first|refine yA ?_|refine y2 ?_ ?_|refine y4 λh=>?_|refine bt hbk ?_|(refine wX ?_;refine ja [0,3,4] hn ?_ (wr:=[(0,some (pX 5 6 ts i2 u1.length)),(3,none),(5,nB 5 u1)]) (k2:=fH) (hle:=by exact⟨ah _,bp (congrArg (λz:UInt8=>V.s (S.int .u8 (z.toNat:Int))) hget),trivial⟩))|exact y5|fail)
    refine fq ([k],R',i2,u1) ⟨?_,?_⟩ (by simp only[Z04];omega) [0,1,2,5,6] rfl ?_ ?_ ?_
    ·rw[<-d1];simp
    ·exact r
    ·repeat'(first|exact ah _|exact cT _|exact Z0o|refine⟨?_,?_⟩)
    ·exact⟨rfl,bN rfl trivial⟩
    ·unfold nB
     generalize List.flatMap _ _=cg
     cases cg<;>rfl
   |cons d0 D'=>
    obtain⟨rfl,h9,hjl⟩:=hc rfl;have hDl:0<(d0::D').length:=Z1n _;have ht9:=mN ts j u.length 9 hts hjl h9
    repeat'(first|refine yA ?_|refine y2 ?_ ?_|refine y4 λh=>?_|refine bt hbk ?_|refine wX (eO [0,3,4] ht9 ?_)|(refine wX ?_;refine ja [0,3,4] hn ?_ (wr:=[(0,some (pX 5 6 ts i2 u1.length)),(3,none),(5,nB 5 u1)]) (k2:=fH) (hle:=by exact⟨ah _,bp (congrArg (λz:UInt8=>V.s (S.int .u8 (z.toNat:Int))) hget),trivial⟩))|exact y5|fail)
    refine fq (d0::D'++[k],R',i2,u1) ⟨?_,?_⟩ (by simp only[Z04];omega) [0,1,2,5,6] rfl ?_ ?_ ?_
    ·rw[<-d1];simp
    ·exact r
    ·repeat'(first|exact ah _|exact cT _|exact Z0o|exact bp (congrArg nI av)|refine⟨?_,?_⟩)
    ·exact⟨rfl,bN rfl trivial⟩
    ·unfold nB
     generalize List.flatMap _ _=cg
     cases cg<;>rfl
theorem sh (ts:List Tk) (k:Int) (i i':Nat) (out out':List Nd) (op:Int) (hts:ts.length<=100000) (hi:i<ts.length) (ho:out.length<=100000) (hx:pH ts i out.length ⟨op,0,[],0⟩) (hop:op=11\/op=13) (hk:k≠83/\k≠101/\k≠115) (hp:bn k op=true)
 (hc:FQ 143 [.s (.ptr (some (0,0))),nI out.length,sV (mT op).1.2.2] 3 (FE ts (i+1) (out++[⟨op,0,[],0⟩])) .any 5 (rZ ts i' out')):iP ts k i out i' out':=by
 have hpe:=mX k op;rw[hp] at hpe;have hro:=pT op;have had:=B6 ts (i+1) out ⟨op,0,[],0⟩ ho;have hol:(out++[(⟨op,0,[],0⟩:Nd)]).length=out.length+1:=av;obtain⟨h83,h101,h115⟩:=hk;generalize mT op=r at*;obtain⟨⟨r1,r2,ks⟩,rb⟩:=r
 rcases hop with rfl|rfl
 all_goals
  refine wW Tryz.func81 ?_
  repeat'(first|refine yA ?_|refine y2 ?_ ?_|(refine y4 λh=>?_;try(first|(first|contradiction|(exfalso;omega)|(exfalso;simp at h;done))|exact y6))|refine bt hpe ?_|refine an hro ?_|refine wX (eO [0,1,2] hx ?_)|(refine wX ?_;refine ja [0,1,2] had ?_ (wr:=[(0,some (pX 4 5 ts (i+1) (out++[_]).length)),(1,none),(4,nB 4 (out++[_]))]) (k2:=fH))|(refine wX ?_;refine ja [0,4,5] hc ?_ (wr:=[(0,some (pX 7 8 ts i' out'.length)),(4,none),(7,nB 7 out')]) (k2:=fH))|exact y5|fail)
  all_goals exact Fin.p5 7 (.tup []) (.inr rfl) rfl rfl rfl (cT _) rfl rfl
theorem F4 {sz o:Nat} {bl:Bl} {x:S} (h:bl.kind=none) (h1:bl.cells[o]? =some x):fo false sz bl o=some (.s x):=by
 unfold fo;rw[h];simp only;rw[h1]
inductive ElS (ts:List Tk) (k:Int) (m at_:Nat):Nat->Nat->List Nd->Nat->List Nd->Prop
 |nil {c i:Nat} {out:List Nd}:ElS ts k m at_ c i out i out
 |cons {c i i1 i2:Nat} {out out1 out2:List Nd} (h:Ct ts i≠8) (hn:iP ts k i (oM out at_ ((c:Int)+1)) i1 out1) (ho:at_<out1.length) (hc:c<m) (h1:(out1.getD at_ dN).kids=((c+1:Nat):Int)) (r:ElS ts k m at_ (c+1) i1 out1 i2 out2):ElS ts k m at_ c i out i2 out2
theorem D5 (ts:List Tk) (hts:ts.length<=100000) (k:Int) (hk:k≠73/\k≠80) (m i i':Nat) (out out':List Nd) (hmm:m<=100000) (ho:out.length<=100000) (h7:Ct ts i=7) (hi:i<ts.length) (hE:ElS ts k m out.length 0 (i+1) (out++[⟨4,0,[],0⟩]) i' out') (h8:Ct ts i'=8) (hi':i'<ts.length):vx ts k i out (i'+1) out':=by
 have hsz:(Tryz.prog.types[49]).size=4:=bd;have ht:=mN ts i out.length 7 hts hi h7;have had:=B6 ts (i+1) out ⟨4,0,[],0⟩ ho;obtain⟨h73,h80⟩:=hk;refine wW Tryz.func144 ?_
 repeat'(first|refine yA ?_|refine y2 ?_ ?_|refine wX (eO [0,1,2] ht ?_)|(refine wX ?_;refine ja [0,1,2] had ?_ (wr:=[(0,some (pX 3 4 ts (i+1) (out++[(⟨4,0,[],0⟩:Nd)]).length)),(1,none),(3,nB 3 (out++[(⟨4,0,[],0⟩:Nd)]))]) (k2:=fH))|exact y5|fail)
 have hout:out.length<(out++[(⟨4,0,[],0⟩:Nd)]).length:=av;have hk0:((out++[(⟨4,0,[],0⟩:Nd)]).getD out.length dN).kids=((0:Nat):Int):=av;generalize out++[(⟨4,0,[],0⟩:Nd)]=q at*;clear ht had ho h7 hi;generalize out.length=at_ at*;refine cD (σ:=Nat×Nat×List Nd) (λs=>[]) (λs=>[(0,some (pX 3 4 ts s.2.1 s.2.2.length)),(3,nB 3 s.2.2)]) (λs=>at_<s.2.2.length/\(s.2.2.getD at_ dN).kids=(s.1:Int)/\ElS ts k m at_ s.1 s.2.1 s.2.2 i' out') (λs=>m-s.1) (0,i+1,q) rfl (λ_=>rfl) ⟨hout,hk0,hE⟩ trivial ?_ ?_
 ·exact⟨rfl,iN rfl trivial⟩
 clear hout hk0 hE;rintro⟨c,i,q⟩ ⟨d1,d2,d3⟩;simp only at d1 d2 d3 |-
 cases d3 with
 |nil=>
  have hkd:=uH ts i' out'.length hts;rw[h8] at hkd;have ht:=mN ts i' out'.length 8 hts hi' h8
  repeat'(first|refine yA ?_|refine y2 ?_ ?_|refine y4 λh=>?_|refine wX (eO [0,3,4] hkd ?_)|refine wX (eO [0,3,4] ht ?_)|exact y5|fail)
  all_goals exact Fin.p5 3 (.tup []) (.inr rfl) rfl rfl rfl (cT _) rfl rfl
 | @cons _ _ i1 _ _ out1 _ h hn ho1 hc h1 r=>
   obtain⟨x0,o,rfl⟩:∃ x0 o,q=x0::o:=by
    cases q with
    |nil=>exact absurd d1 (Z1m _)
    |cons x0 o=>exact⟨x0,o,rfl⟩
   have hks:bW ((x0::o).flatMap ndC) (at_*4+3) [.int .i64 ((c:Int)+1)]=(oM (x0::o) at_ ((c:Int)+1)).flatMap ndC:=sF d1
   have hkl:(oM (x0::o) at_ ((c:Int)+1)).length=o.length+1:=by simp[oM]
   have hld:((x0::o).flatMap ndC)[at_*4+3]? =some (.int .i64 (c:Int)):=dQ ndC 4 dN (λ_=>rfl) d1 (by rw[<-d2];rfl);have hkd:=uH ts i (o.length+1) hts;generalize oM (x0::o) at_ ((c:Int)+1)=q2 at*;have hq:nB 3 q2=some {cells:=q2.flatMap ndC,ty:=49,more:=true,sym:=true,flat:=true,gh:=some (4,4)}:=vZ aa
   repeat'(first|refine Ex.celR 5 0 2 (s':=.sla 3 4 (o.length+1)) rfl rfl (SLe.rowsla (Z1n _)) rfl ?_|refine Ex.celR 6 0 2 (s':=.row 3 4 q2.length) rfl rfl (by rw[hkl];exact SLe.slarow (Z1n _)) rfl ?_|refine y1 ?_|refine y2 ?_ ?_|refine y4 λh=>?_|refine wX (eO [0,3,4] hkd ?_)|(refine wX ?_;refine ja [0,3,4] hn ?_ (wr:=[(0,some (pX 5 6 ts i1 out1.length)),(3,none),(5,nB 5 out1)]) (k2:=fH) (ft:=by exact⟨⟨rfl,_,rfl,rfl,λh=>h⟩,Cm rfl hq.symm trivial⟩))|refine tW [.val (nI c)] rfl rfl ?_ rfl ?_|refine RegX.sto [.cells (q2.flatMap ndC)] rfl rfl ⟨?_,?_⟩ rfl ?_|refine y3 ?_|exact y5|fail)
   ·rw[hsz,aL,aL,bB,Z0c]
    exact F4 rfl hld
   ·rw[hsz,aL,aL,bB,Z0c]
    show at_*4+3+1<=((x0::o).flatMap ndC).length;rw[j8];omega
   ·rw[hsz,aL,aL,bB,Z0c];exact hks.symm
   refine fq (c+1,i1,out1) ⟨ho1,h1,r⟩ (by show m-(c+1)<m-c;omega) [0,1,2,5,6] rfl ?_ ?_ ?_
   ·repeat'(first|exact ah _|exact cT _|exact Z0o|refine⟨?_,?_⟩)
   ·exact⟨rfl,bN rfl trivial⟩
   ·unfold nB
    generalize List.flatMap _ _=cg
    cases cg<;>rfl
abbrev Ro:=Int×Ent
def BX (s:By):List Ro->Int
 |[]=> -1
 |r::t=>if r.2.path=s then r.1 else BX s t
def zV (z:Int):List Ro->Option Ent
 |[]=>none
 |r::t=>if r.1=z then some r.2 else zV z t
def tq (O:List Ro) (z:Int):Bool:=match zV z O with|some x=>decide (x.op=10)||decide (x.op=11)||decide (x.op=12)|none=>false
