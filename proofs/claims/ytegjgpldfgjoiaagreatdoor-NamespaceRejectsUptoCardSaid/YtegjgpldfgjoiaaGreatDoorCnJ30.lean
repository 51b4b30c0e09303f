import Derived.Test.YtegjgpldfgjoiaaGreatDoorCnJ25
set_option linter.all false
set_option maxHeartbeats 40000000
set_option maxRecDepth 100000
namespace Go.Proofs.YtegjgpldfgjoiaaGreatDoor
open Go Ab
def jM (s:By) (i:Nat):Nat:=i+((s.drop i).takeWhile lZ).length
theorem oS (s:By) (i:Nat) (hi:i<=s.length) (hl0:s.length<9223372036854775807):FQ 166 [sV s,nI i] 0 [] (nI (jM s i:Nat)) 0 []:=by
 refine wW Tryz.func166 ?_
 repeat'(first|refine y1 ?_|refine y2 ?_ ?_|refine y3 ?_|exact y5|fail)
 refine cy (σ:=Nat) (λj=>[(1,nI j)]) (λ_=>[]) (λj=>j<=s.length/\jM s i=j+((s.drop j).takeWhile lZ).length) (λj=>s.length-j) i rfl (λ_=>rfl) ⟨hi,rfl⟩ aP trivial ?_;rintro j ⟨hj,hE⟩
 rcases Z0a j s.length with h|h
 ·rw[IH h] at hE
  have hl:=fx ((s.getD j 0).toNat:Int);have hd:=l8 ((s.getD j 0).toNat:Int);rw[show lZ (s.getD j 0)=(gr ((s.getD j 0).toNat:Int)||k_ ((s.getD j 0).toNat:Int)) from rfl] at hE;generalize gr ((s.getD j 0).toNat:Int)=b1 at*;generalize k_ ((s.getD j 0).toNat:Int)=b2 at*
  cases b1<;>cases b2<;>simp only[Z4m,Z41,if_true,Z3e,Z0l,if_false,Z04,Z0e] at hE
  all_goals
   repeat'(first|refine y1 ?_|refine y2 ?_ ?_|refine y4 λh=>?_|refine bG hl ?_|refine bG hd ?_|refine lh (.inl rfl) rfl ?_|refine dz (j+1) ⟨?_,?_⟩ ?_ rfl aP trivial rfl rfl (Z02 _)|refine y3 ?_|exact y5|fail)
 ·rw[Z10 h] at hE
  simp only[List.takeWhile_nil,Z0e] at hE
  repeat'(first|refine y1 ?_|refine y2 ?_ ?_|refine y4 λh=>?_|refine lh (.inl rfl) rfl ?_|refine y3 ?_|exact y5|fail)
def IP (c:UInt8):Bool:=decide (c=32\/c=9\/c=13\/c=10)
def LB (s:By) (i:Nat):Nat:=i+((s.drop i).takeWhile IP).length
theorem LA {s:By} {j:Nat} (hj:j<s.length):(s.drop j).takeWhile IP=if IP (s.getD j 0) then s.getD j 0::(s.drop (j+1)).takeWhile IP else []:=by
 rw[Z0k hj,List.takeWhile_cons,Z00,Z01 hj];rfl
theorem Da (s:By) (i:Nat) (hi:i<=s.length) (hl0:s.length<1000000000) (hn:∀ j,s.getD j 0≠47):FQ 135 [sV s,nI i] 0 [] (.tup [.s (.int .i64 (LB s i:Nat)),.s (.bool true)]) 0 []:=by
 refine wW Tryz.func135 ?_
 repeat'(first|refine y1 ?_|refine y2 ?_ ?_|refine y3 ?_|exact y5|fail)
 refine cy (σ:=Nat) (λj=>[(1,nI j)]) (λ_=>[]) (λj=>j<=s.length/\LB s i=j+((s.drop j).takeWhile IP).length) (λj=>s.length-j) i rfl (λ_=>rfl) ⟨hi,rfl⟩ aP trivial ?_;rintro j ⟨hj,hE⟩
 rcases Z0a j s.length with h|h
 ·rw[LA h] at hE
  have hc:=hn j
  obtain⟨c,hcc⟩:∃ c,s.getD j 0=c:=⟨_,rfl⟩
  rw[hcc] at hE hc
  have hc':((s.getD j 0).toNat:Int)=(c.toNat:Int):=by rw[hcc]
  have h47: ¬c.toNat=47:=λe=>hc (Z39.1 e)
  by_cases hs:IP c=true
  ·rw[if_pos hs,Z04] at hE
   have hs:c.toNat=32\/c.toNat=9\/c.toNat=13\/c.toNat=10:=by
    unfold IP at hs;simp only[decide_eq_true_eq] at hs
    rcases hs with e|e|e|e<;>subst e<;>simp
   repeat'(first|refine y1 ?_|refine y2 ?_ ?_|refine y4 λh=>?_|refine y3 ?_|exact y5|fail)
   all_goals exact dz (j+1) ⟨aa,aa⟩ aa rfl ⟨bB (congrArg nI (by push_cast;omega)),trivial⟩ trivial rfl rfl (Z02 _)
  ·rw[if_neg hs,Z0e] at hE
   have hs: ¬c.toNat=32/\ ¬c.toNat=9/\ ¬c.toNat=13/\ ¬c.toNat=10:=by
    unfold IP at hs;simp only[decide_eq_true_eq,not_or] at hs;obtain⟨a1,a2,a3,a4⟩:=hs;exact⟨λe=>a1 (Z39.1 e),λe=>a2 (Z39.1 e),λe=>a3 (Z39.1 e),λe=>a4 (Z39.1 e)⟩
   rw[hE,Z0p]
   repeat'(first|refine y1 ?_|refine y2 ?_ ?_|refine y4 λh=>?_|refine y3 ?_|exact y5|fail)
   all_goals exact jk (.inl rfl) rfl rfl rfl
 ·rw[Z10 h] at hE
  simp only[List.takeWhile_nil,Z0e] at hE;rw[hE,Z0p]
  repeat'(first|refine y1 ?_|refine y2 ?_ ?_|refine y4 λh=>?_|refine y3 ?_|exact y5|fail)
  all_goals exact jk (.inl rfl) rfl rfl rfl
theorem BR (s:By) (i:Nat) (hi:i<s.length) (hl0:s.length<1000000000) (h1:gr ((s.getD i 0).toNat:Int)=true) (h2:a_ ((s.take (jM s i)).drop i)=true) (h3:jM s i<s.length) (h4:s.getD (jM s i) 0≠46):FQ 202 [sV s,nI i] 0 [] (nI (jM s i:Nat)) 0 []:=by
 have hl:=fx ((s.getD i 0).toNat:Int);rw[h1] at hl;have hid:=oS s i aa aa
 have hc:(97<=((s.getD i 0).toNat:Int)/\((s.getD i 0).toNat:Int)<=122\/65<=((s.getD i 0).toNat:Int)/\((s.getD i 0).toNat:Int)<=90\/((s.getD i 0).toNat:Int)=95):=by unfold gr at h1;simpa using h1
 have h46: ¬((s.getD (jM s i) 0).toNat:Int)=46:=λe=>h4 (Z39.1 (by have:(46:UInt8).toNat=46:=rfl;omega))
 have hle:i<=jM s i:=Z1o _ _;have hsg:=ka ((s.take (jM s i)).drop i) (by simp only[Z19,Z1u];omega);rw[h2] at hsg;generalize jM s i=k at*;refine wW Tryz.func202 ?_
 repeat'(first|refine y1 ?_|refine y2 ?_ ?_|refine y4 λh=>?_|refine bG hl ?_|refine an hid ?_|refine bG hsg ?_|refine Ex.unroll 1 ?_|refine y3 ?_|exact y5|fail)
 all_goals exact jk (.inl rfl) rfl rfl rfl
structure Tk where
 kind:Int
 int:Int
 str:By
 pos:Int
def Gp (t:Tk):List S:=[.int .i64 t.kind,.int .u64 t.int,.str t.str,.int .i64 t.pos]
def Lb (t:Tk) (k:Int):V:=.tup [.agg (Gp t),.s (.int .i64 k)]
def x8 (z:Int):Int:=if z=40 then 5 else if z=41 then 6 else if z=123 then 7 else if z=125 then 8 else if z=44 then 9 else 0
theorem LN (z:Int):FQ 206 [n8 z] 0 [] (nI (x8 z)) 0 []:=by
 unfold x8;refine wW Tryz.func206 ?_
 repeat'(first|refine y1 ?_|refine y2 ?_ ?_|refine y4 λh=>?_|refine lh (.inl rfl) rfl ?_|refine y3 ?_|exact y5|fail)
theorem HJ (s:By) (i:Nat) (hi:i<s.length) (hl0:s.length<1000000000) (h1:gr ((s.getD i 0).toNat:Int)=true) (h2:qY ((s.take (jM s i)).drop i)=true) (h3:jM s i<=i+32) (h4:jM s i<=s.length):
 FQ 136 [sV s,nI i] 0 [] (Lb ⟨2,0,(s.take (jM s i)).drop i,i⟩ (jM s i:Nat)) 0 []:=by
 have hl:=fx ((s.getD i 0).toNat:Int);rw[h1] at hl;have hid:=oS s i aa aa;have hle:i<=jM s i:=Z1o _ _;have hlo:=tG ((s.take (jM s i)).drop i) (by simp only[Z19,Z1u];omega);rw[h2] at hlo;generalize jM s i=k at*;refine wW Tryz.func136 ?_
 repeat'(first|refine y1 ?_|refine y2 ?_ ?_|refine y4 λh=>?_|refine bG hl ?_|refine an hid ?_|refine bG hlo ?_|refine y3 ?_|exact y5|fail)
 all_goals exact jk (.inl rfl) rfl rfl rfl
theorem HI (s:By) (i:Nat) (hi:i<s.length) (hl0:s.length<1000000000) (h1:gr ((s.getD i 0).toNat:Int)=true) (h2:qY ((s.take (jM s i)).drop i)=false) (h5:a_ ((s.take (jM s i)).drop i)=true) (h3:jM s i<s.length) (h4:s.getD (jM s i) 0≠46):
 FQ 136 [sV s,nI i] 0 [] (Lb ⟨1,0,(s.take (jM s i)).drop i,i⟩ (jM s i:Nat)) 0 []:=by
 have hne:=BR s i hi hl0 h1 h5 h3 h4;have hl:=fx ((s.getD i 0).toNat:Int);rw[h1] at hl;have hid:=oS s i aa aa;have hle:i<=jM s i:=Z1o _ _;have hlo:=tG ((s.take (jM s i)).drop i) (by simp only[Z19,Z1u];omega);rw[h2] at hlo;generalize jM s i=k at*;refine wW Tryz.func136 ?_
 repeat'(first|refine y1 ?_|refine y2 ?_ ?_|refine y4 λh=>?_|refine bG hl ?_|refine an hid ?_|refine bG hlo ?_|refine an hne ?_|refine y3 ?_|exact y5|fail)
 all_goals exact jk (.inl rfl) rfl rfl rfl
theorem HK (s:By) (i:Nat) (v:Int) (hi:i<s.length) (hl0:s.length<1000000000) (h1:gr ((s.getD i 0).toNat:Int)=false) (h2:k_ ((s.getD i 0).toNat:Int)=true) (h4:jM s i<=s.length) (hv:FQ 204 [sV ((s.take (jM s i)).drop i)] 0 [] (.tup [.s (.int .u64 v),.s (.bool true)]) 0 []):
 FQ 136 [sV s,nI i] 0 [] (Lb ⟨3,v,[],i⟩ (jM s i:Nat)) 0 []:=by
 have hl:=fx ((s.getD i 0).toNat:Int);rw[h1] at hl;have hd:=l8 ((s.getD i 0).toNat:Int);rw[h2] at hd
 have hc:48<=((s.getD i 0).toNat:Int)/\((s.getD i 0).toNat:Int)<=57:=by unfold k_ at h2;simpa using h2
 have hid:=oS s i aa aa;have hle:i<=jM s i:=Z1o _ _;generalize jM s i=k at*;refine wW Tryz.func136 ?_
 repeat'(first|refine y1 ?_|refine y2 ?_ ?_|refine y4 λh=>?_|refine bG hl ?_|refine bG hd ?_|refine an hid ?_|refine an hv ?_|refine y3 ?_|exact y5|fail)
 all_goals exact jk (.inl rfl) rfl rfl rfl
theorem HH (s:By) (i:Nat) (c:Int) (hi:i<s.length) (hl0:s.length<1000000000) (hc:((s.getD i 0).toNat:Int)=c) (h0:c=40\/c=41\/c=123\/c=125\/c=44):
 FQ 136 [sV s,nI i] 0 [] (Lb ⟨x8 c,0,[],i⟩ ((i:Int)+1)) 0 []:=by
 have hl:=fx ((s.getD i 0).toNat:Int);rw[show gr ((s.getD i 0).toNat:Int)=false by unfold gr;rw[hc];simp;omega] at hl;have hd:=l8 ((s.getD i 0).toNat:Int);rw[show k_ ((s.getD i 0).toNat:Int)=false by unfold k_;rw[hc];simp;omega] at hd;have hp:=LN ((s.getD i 0).toNat:Int);rw[hc] at hp
 have hpz:0<x8 c:=by unfold x8;repeat' split<;>omega
 generalize x8 c=k at*;refine wW Tryz.func136 ?_
 repeat'(first|refine y1 ?_|refine y2 ?_ ?_|refine y4 λh=>?_|refine bG hl ?_|refine bG hd ?_|(refine wX ?_;refine sC hp rfl ⟨bB (congrArg (λz=>V.s (S.int .u8 z)) hc),trivial⟩ rfl rfl rfl ?_)|refine y3 ?_|exact y5|fail)
 all_goals exact jk (.inl rfl) rfl rfl rfl
inductive TokS (s:By):Nat->List Tk->Prop
 |nil {i:Nat} (hi:i<=s.length) (hs:LB s i=s.length):TokS s i []
 |cons {i j k:Nat} {t:Tk} {ts:List Tk} (hi:i<=s.length) (hj:LB s i=j) (hlt:j<s.length) (hit:FQ 136 [sV s,nI j] 0 [] (Lb t (k:Nat)) 0 []) (r:TokS s k ts):TokS s i (t::ts)
def n_:Tk:=⟨0,0,[],0⟩
def Lt (ts:List Tk):S:=.frz (λk=>Gp (ts.getD k n_)) 4 ts.length
theorem GO {a:Tk} {j:Nat} {x:S} (h:(Gp a)[j]? =some x):bL x=true:=by
 rcases j with _|_|_|_|j
 ·cases h;rfl
 ·cases h;rfl
 ·cases h;rfl
 ·cases h;rfl
 ·simp[Gp] at h
theorem zN:∀ l:List Tk,(l.flatMap Gp).length=l.length*4
 |[]=>rfl
 |r::t=>by rw[Z0g,Z03,zN t,Z04];show 4+_=_;omega
theorem JG (s:By) (ts:List Tk) (hT:TokS s 0 ts) (hl0:s.length<=65536) (hn:∀ j,s.getD j 0≠47) (hts:ts.length<=100000):FQ 80 [sV s] 0 [] (.tup [.s (Lt ts),.s (.int .i64 0),.s (.int .i64 0)]) 0 []:=by
 have hsz:(Tryz.prog.types[154]).size=4:=aK;have hby:(Tryz.prog.types[154]).bytes=40:=aK;refine wW Tryz.func80 ?_
 repeat'(first|refine y1 ?_|refine y2 ?_ ?_|refine y4 λh=>?_|refine y3 ?_|exact y5|fail)
 refine gH 5 (.s (.row 0 1 0)) (VLe.s SLe.nilrow) rfl (Ex.upN (n':=2) aa ?_);refine cy (σ:=List Tk×Nat×List Tk) (λq=>[(5,.s (.row 0 1 q.1.length)),(6,nI q.2.1)]) (λq=>[(0,fq 154 1 4 (q.1.flatMap Gp))]) (λq=>q.1++q.2.2=ts/\TokS s q.2.1 q.2.2) (λq=>q.2.2.length) ([],0,ts) rfl (λ_=>rfl) ⟨rfl,hT⟩ aP trivial ?_;rintro⟨D,i,r⟩ ⟨h1,h2⟩;simp only at h1 h2 |-
 cases h2 with
 |nil hi hs=>
  rw[Z0u] at h1;subst h1;have hsk:=Da s i hi aa hn;rw[hs] at hsk
  repeat'(first|refine y1 ?_|refine y2 ?_ ?_|refine y4 λh=>?_|refine an hsk ?_|refine Ex.fzR 2 Gp 4 n_ D rfl rfl (λ_=>rfl) (λa j x h=>GO h) ac rfl rfl ?_|refine dv (.inl rfl) rfl (ah _) rfl|refine y3 ?_|exact y5|fail)
 | @cons _ j k t ts' hi hj hlt hit r=>
   have hlen:D.length+(ts'.length+1)=ts.length:=by rw[<-h1];simp
   have hsk:=Da s i hi aa hn;rw[hj] at hsk
   repeat'(first|refine y1 ?_|refine y2 ?_ ?_|refine y4 λh=>?_|refine an hsk ?_|refine an hit ?_|refine gZ (i:=0) (g:=1) (m:=D.length) (w:=4) (cs:=D.flatMap Gp) (foot:=[3]) (k:=1) (add:=Gp t) rfl rfl (zN D) rfl rfl rfl rfl rfl rfl rfl hsz ac rfl ⟨Z02 _,rfl⟩ ac (by simp[Gp]) rfl (by rw[hby];omega) aa rfl ?_|refine y3 ?_|exact y5|fail)
   refine fX (D++[t],k,ts') ⟨by simpa using h1,r⟩ (by simp only[Z04];omega) [4,5] rfl ?_ ?_ ?_
   ·repeat'(first|exact ah _|exact dd _|exact Z0o|(refine bB (congrArg V.s (?_:S.row 4 5 _=S.row 4 5 _));simp;done)|refine⟨?_,?_⟩)
   ·refine bh ?_ trivial
    rw[Z0r,Z0g,List.flatMap_nil,Z0u];rfl
   ·generalize List.flatMap _ _=cg
    cases cg<;>rfl
abbrev nB (g:Nat) (D:List Nd):Option Bl:=fq 49 (g+1) 4 (D.flatMap ndC)
abbrev ti (a b:Nat) (ts:List Tk) (i m:Nat):Bl:={cells:=[Lt ts,.int .i64 (i:Nat),.row a b m,.int .i64 (-1)],ty:=151}
abbrev JR (ts:List Tk) (i:Nat) (out:List Nd):Hp:=[(0,some (ti 1 2 ts i out.length)),(1,nB 1 out)]
abbrev vJ (ts:List Tk) (i:Nat) (out:List Nd):Hp:=[(0,some (ti 3 4 ts i out.length)),(1,none),(3,nB 3 out)]
abbrev Lf (ts:List Tk) (i m:Nat):Hp:=[(0,some (ti 1 2 ts i m))]
abbrev Gx (ts:List Tk) (i:Nat):Int:=(ts.getD i n_).kind
theorem lO:∀ l:List Nd,(l.flatMap ndC).length=l.length*4
 |[]=>rfl
 |r::t=>by rw[Z0g,Z03,lO t,Z04];show 4+_=_;omega
theorem gT {ts:List Tk} {i:Nat} {out:List Nd}:fg 3 (JR ts i out)=true:=by
 unfold JR nB;generalize List.flatMap ndC out=cg
 cases cg<;>rfl
theorem JZ {ts:List Tk} {i:Nat} {out:List Nd}:fg 5 (vJ ts i out)=true:=by
 unfold vJ nB;generalize List.flatMap ndC out=cg
 cases cg<;>rfl
section
variable {P:Program} {fn:Func} {env:List V} {ts:List Tk} {i i':Nat} {out out':List Nd} {v v':V} {e:Exit} {M:Hp} {m:Nat}
theorem Fin.p5 (c:Nat) (v':V) (hx:e=.ret\/e=.normal) (h0:lk M 0=some (ti c (c+1) ts i out.length)) (h1:lk M c=nB c out) (hr:gC P fn env M=some (cb (rn (List.range 3++[c,c+1]) 0) v')) (hv:VLe v' v) (hk:fI 5 v'=true) (hn:co (List.range 3++[c,c+1])=true):Fin P fn 3 v 5 (vJ ts i out) e env m M:=
 ⟨hx,v',[c,c+1],hv,fY hr ⟨h0,bh h1 trivial⟩ hk JZ rfl hn⟩
end
theorem yz (ts:List Tk) (i m:Nat) (hts:ts.length<=100000):FQ 142 [.s (.ptr (some (0,0)))] 3 (Lf ts i m) (nI (Gx ts i)) 3 (Lf ts i m):=by
 refine wW Tryz.func142 ?_;by_cases h:i<ts.length
 ·
  repeat'(first|refine yA ?_|refine y2 ?_ ?_|refine y4 λh=>?_|exact y5|fail)
  exact bK
 ·have e:Gx ts i=0:=by rw[Gx,Z00,Z0b aa];rfl
  rw[e]
  repeat'(first|refine yA ?_|refine y2 ?_ ?_|refine y4 λh=>?_|exact y5|fail)
  exact bK
theorem px (ts:List Tk) (i m:Nat) (k:Int) (hts:ts.length<=100000) (hi:i<ts.length) (hk:Gx ts i=k):FQ 209 [.s (.ptr (some (0,0))),nI k] 3 (Lf ts i m) .any 3 (Lf ts (i+1) m):=by
 have hkd:=yz ts i m hts;rw[hk] at hkd;refine wW Tryz.func209 ?_
 repeat'(first|refine yA ?_|refine y2 ?_ ?_|refine y4 λh=>?_|refine wX (bD [0,1,2] hkd ?_)|exact y5|fail)
 exact⟨.inr rfl,.tup [],[],dd _,fY rfl ⟨rfl,trivial⟩ rfl rfl rfl rfl⟩
theorem F2 (ts:List Tk) (i:Nat) (out:List Nd) (x:Nd) (ho:out.length<=100000):FQ 140 [.s (.ptr (some (0,0))),L3 x] 3 (JR ts i out) (nI out.length) 5 (vJ ts i (out++[x])):=by
 have hsz:(Tryz.prog.types[49]).size=4:=aK;have hby:(Tryz.prog.types[49]).bytes=40:=aK;refine wW Tryz.func140 ?_
 repeat'(first|refine y1 ?_|refine y2 ?_ ?_|refine gZ (i:=1) (g:=2) (m:=out.length) (w:=4) (cs:=out.flatMap ndC) (foot:=[4]) (k:=1) (add:=ndC x) rfl rfl (lO out) rfl rfl rfl rfl rfl rfl rfl hsz ac rfl ⟨Z02 _,rfl⟩ ac (by simp[ndC]) rfl (by rw[hby];omega) aa rfl ?_|refine y3 ?_|exact y5|fail)
 refine Fin.p5 5 _ (.inl rfl) ?_ ?_ rfl (bB (congrArg nI (by push_cast;omega))) rfl rfl
 ·rw[Z03];rfl
 ·rw[nB,Z0r,Z0g,List.flatMap_nil,Z0u];rfl
def sF (s:By):List Rw->Rw×Bool
 |[]=>(dR,false)
 |r::t=>if r.2.1=s then (r,true) else sF s t
theorem CJ (s:By):FQ 208 [sV s] 0 [] (.tup [.agg (xF (sF s rowsL).1),.s (.bool (sF s rowsL).2)]) 0 []:=by
 refine wW Tryz.func208 ?_;have hl:rowsL.length=56:=rfl;generalize hR:sF s rowsL=R
 repeat'(first|refine yA ?_|refine y2 ?_ ?_|refine an Dj ?_|exact y5|fail)
 generalize rowsL=rl at*;refine cy (σ:=Nat) (λj=>[(5,nI j)]) (λ_=>[(0,some {cells:=[.int .i64 0,.str [],.str []],ty:=207})]) (λj=>j<=56/\sF s (rl.drop j)=R) (λj=>56-j) 0 rfl (λ_=>rfl) ⟨Z08 _,hR⟩ aP ⟨rfl,trivial⟩ ?_;rintro j ⟨hj,hI⟩;by_cases h:j<56
 ·have hd:rl.drop j=rl.getD j dR::rl.drop (j+1):=by
   rw[Z0k aa,Z00,Z01 aa];rfl
  rw[hd] at hI;simp only[sF] at hI;by_cases ho:(rl.getD j dR).2.1=s
  ·rw[if_pos ho] at hI
   subst hI
   repeat'(first|refine y1 ?_|refine y2 ?_ ?_|refine y4 λh=>?_|refine jk (.inl rfl) rfl ?_ rfl|refine y3 ?_|exact y5|fail)
  ·rw[if_neg ho] at hI
   repeat'(first|refine yA ?_|refine y2 ?_ ?_|refine y4 λh=>?_|exact y5|fail)
   refine dz (j+1) ⟨aa,hI⟩ aa rfl aP ⟨rfl,trivial⟩ rfl rfl ac
 ·rw[Z10 aa] at hI
  subst hI
  repeat'(first|refine y1 ?_|refine y2 ?_ ?_|refine y4 λh=>?_|refine jk (.inl rfl) rfl ?_ rfl|refine y3 ?_|exact y5|fail)
theorem DX (s w:By) (n:Int) (hs:s.length<=1000) (hw:w.length<=1000) (h: ¬(s.length=w.length+1/\s.take w.length=w)):FQ 207 [sV s,sV w,nI n] 0 [] (nI (-1)) 0 []:=by
 refine wW Tryz.func207 ?_;by_cases h1:s.length=w.length+1
 ·have h2: ¬s.take w.length=w:=λe=>h ⟨h1,e⟩
  repeat'(first|refine y1 ?_|refine y2 ?_ ?_|refine y4 λh=>?_|refine lh (.inl rfl) rfl rfl|refine y3 ?_|exact y5|fail)
 ·
  repeat'(first|refine y1 ?_|refine y2 ?_ ?_|refine y4 λh=>?_|refine lh (.inl rfl) rfl rfl|refine y3 ?_|exact y5|fail)
abbrev sD (ts:List Tk) (i m:Nat) (x:Nd):Prop:=FQ 137 [.s (.ptr (some (0,0)))] 3 (Lf ts i m) (L3 x) 3 (Lf ts i m)
theorem Hy (ts:List Tk) (i m:Nat) (hts:ts.length<=100000) (hi:i<ts.length) (hk:(ts.getD i n_).kind=3):sD ts i m ⟨1,(ts.getD i n_).int,[],0⟩:=by
 refine wW Tryz.func137 ?_
 repeat'(first|refine yA ?_|refine y2 ?_ ?_|refine y4 λh=>?_|exact y5|fail)
 all_goals exact bK
theorem Hw (ts:List Tk) (i m:Nat) (hts:ts.length<=100000) (hi:i<ts.length) (hk:(ts.getD i n_).kind=1) (hl:(ts.getD i n_).str.length<=1000) (hp:(ai (ts.getD i n_).str).2=true):sD ts i m ⟨3,0,(ts.getD i n_).str,0⟩:=by
 have hpr:=eG (ts.getD i n_).str aa
 rcases hq:ai (ts.getD i n_).str with ⟨q,ok⟩
 rw[hq] at hpr hp;simp only at hp;subst hp;refine wW Tryz.func137 ?_
 repeat'(first|refine yA ?_|refine y2 ?_ ?_|refine y4 λh=>?_|refine an hpr ?_|exact y5|fail)
 all_goals exact bK
theorem Hx (ts:List Tk) (i m:Nat) (hts:ts.length<=100000) (hi:i<ts.length) (hk:(ts.getD i n_).kind=2) (hl:(ts.getD i n_).str.length<=1000) (h1: ¬((ts.getD i n_).str.length=6/\(ts.getD i n_).str.take 5=[76,111,99,97,108])) (h2: ¬((ts.getD i n_).str.length=4/\(ts.getD i n_).str.take 3=[65,114,103])) (op:Int) (ho:(sF (ts.getD i n_).str rowsL).1.1=op):sD ts i m ⟨op,0,[],0⟩:=by
 have hw:=CJ (ts.getD i n_).str;have hn1:=DX (ts.getD i n_).str [76,111,99,97,108] 8 hl ac h1;have hn2:=DX (ts.getD i n_).str [65,114,103] 7 hl ac h2;subst ho;generalize sF (ts.getD i n_).str rowsL=r at*;refine wW Tryz.func137 ?_
 repeat'(first|refine yA ?_|refine y2 ?_ ?_|refine y4 λh=>?_|refine an hw ?_|refine an hn1 ?_|refine an hn2 ?_|exact y5|fail)
 all_goals exact bK
abbrev jZ (ts:List Tk) (k:Int) (i:Nat) (out:List Nd) (i':Nat) (out':List Nd):Prop:=FQ 81 [.s (.ptr (some (0,0))),n8 k] 3 (JR ts i out) .any 5 (vJ ts i' out')
theorem rK (ts:List Tk) (k:Int) (i:Nat) (out:List Nd) (x:Nd) (hts:ts.length<=100000) (hi:i<ts.length) (ho:out.length<=100000) (hx:sD ts i out.length x) (hop:x.op=1\/x.op=3) (hk:k≠83/\k≠101) (hp:bH k x.op=true) (hs:k=115->a_ x.str=true) (hl:x.str.length<=1000):jZ ts k i out (i+1) (out++[x]):=by
 have hpe:=pH k x.op;rw[hp] at hpe;have hsi:=ve x.str aa;have had:=F2 ts (i+1) out x ho;have hol:(out++[x]).length=out.length+1:=aq;obtain⟨h83,h101⟩:=hk;obtain⟨op,int,str,kids⟩:=x;simp only at hop hl hs hpe hsi;by_cases h115:k=115
 ·rw[hs h115] at hsi
  rcases hop with rfl|rfl
  all_goals
   refine wW Tryz.func81 ?_
   repeat'(first|refine yA ?_|refine y2 ?_ ?_|(refine y4 λh=>?_;try(first|(first|contradiction|(exfalso;omega)|(exfalso;simp at h;done))|exact y6))|refine bG hpe ?_|refine bG hsi ?_|refine wX (bD [0,1,2] hx ?_)|(refine wX ?_;refine jX [0,1,2] had ?_ (wr:=[(0,some (ti 4 5 ts (i+1) (out++[_]).length)),(1,none),(4,nB 4 (out++[_]))]) (k2:=gT))|exact y5|fail)
   all_goals exact Fin.p5 4 (.tup []) (.inr rfl) rfl rfl rfl (dd _) rfl rfl
 ·rcases hop with rfl|rfl
  all_goals
   refine wW Tryz.func81 ?_
   repeat'(first|refine yA ?_|refine y2 ?_ ?_|(refine y4 λh=>?_;try(first|(first|contradiction|(exfalso;omega)|(exfalso;simp at h;done))|exact y6))|refine bG hpe ?_|refine wX (bD [0,1,2] hx ?_)|(refine wX ?_;refine jX [0,1,2] had ?_ (wr:=[(0,some (ti 4 5 ts (i+1) (out++[_]).length)),(1,none),(4,nB 4 (out++[_]))]) (k2:=gT))|exact y5|fail)
   all_goals exact Fin.p5 4 (.tup []) (.inr rfl) rfl rfl rfl (dd _) rfl rfl
