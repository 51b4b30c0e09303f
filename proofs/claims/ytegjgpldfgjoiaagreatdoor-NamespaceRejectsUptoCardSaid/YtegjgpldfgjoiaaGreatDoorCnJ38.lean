import Derived.Test.YtegjgpldfgjoiaaGreatDoorCnJ31
import Derived.Test.YtegjgpldfgjoiaaGreatDoorCnJ34
set_option linter.all false
set_option maxHeartbeats 40000000
set_option maxRecDepth 100000
namespace Go.Proofs.YtegjgpldfgjoiaaGreatDoor
open Go Ab
section
variable {P:Program} {b:Nat} {ops:Array Oper} {d:Bool} {acc:List Row} {os:List Oper} {env:List V} {n:Nat} {L:Hp} {R:Post}
variable {dst:Option Tmp} {x ix yv:Operand} {tx kt et:TypeId} {t:TypeId} {pos:String} {af:Array Edge} {gd:Option (Nat×Bool)} {i:Nat}
theorem RegX.oLkE {E:List Ent} {z:Int} {r0:Bool} (j:Nat) (X:Ent) (hX:E.getD j eZ=X) (hx:ev env x=.s (.map (some i))) (hix:ev env ix=.s (.int .i64 z)) (hz:z=j) (hj:j<E.length) (hl:lk L i=some {oB E with ro:=r0}) (hty:P.underlying tx=some (.map kt et)) (hd:P.underlying kt=some (.int .i64)) (h0:kG P et true=some (gX eZ))
 (hwt:bf ops env ⟨dst,.lookup tx x ix false,t,pos,af,gd⟩=some true)
 (kk:RegX P ops d (aE d ⟨dst,.lookup tx x ix false,t,pos,af,gd⟩ [i] [] acc) os (bg env dst (.agg (gX X))) n L R):
 RegX P ops d acc (⟨dst,.lookup tx x ix false,t,pos,af,gd⟩::os) env n L R:=by
 subst hX;exact RegX.oLk j hx hix hz hj hl hty hd h0 hwt kk
end
def tZ:Tb:=⟨[],[]⟩
structure RegAt (T:List Tb) (x:Ent) (sp ba ln:Int):Prop where
 at_:∃ (j nd:Nat),x.tab=1+(j:Int)/\j<T.length/\x.node=nd/\(nd+4<(T.getD j tZ).p.length/\nd<=4096)/\sp=((T.getD j tZ).p.getD (nd+2) dN).int/\ba=((T.getD j tZ).p.getD (nd+3) dN).int/\ln=((T.getD j tZ).p.getD (nd+4) dN).int
 s0:0<=sp
 s1:sp<=1000
 b0:0<=ba
 b1:ba<=9223372036854775808
 l0:0<=ln
 l1:ln<=1048576
theorem vD (nt num:Int) (p:List Nd) (Eo:List Nat) (x y:Value) (E:List Ent) (T:List Tb) (k:Nat) (hk:k<E.length) (sp ba ln:Int) (hr:RegAt T (E.getD k eZ) sp ba ln):
 FQ 128 [.s (.ptr (some (0,0))),nI k] 6 [(0,some (gD (E.length:Nat) nt num p Eo (.cst x) (.cst y))),(1,some (oB E)),(3,some (tB T))] (.agg [.int .i64 sp,.int .u64 ba,.int .u64 ln]) 6 [(0,some (gD (E.length:Nat) nt num p Eo (.cst x) (.cst y))),(1,some (oB E)),(3,some (tB T))]:=by
 obtain⟨⟨j,nd,e1,e2,e3,⟨e4,e4'⟩,e5,e6,e7⟩,s0,s1,b0,b1,l0,l1⟩:=hr;have wv:IntKind.i64.wrap ((T.getD j tZ).p.getD (nd+2) dN).int=((T.getD j tZ).p.getD (nd+2) dN).int:=aB aa aa;subst e5;subst e6;subst e7;refine wW Tryz.func128 ?_;generalize hx:E.getD k eZ=X at*;obtain⟨a1,a2,a3,a4,a5,c1,c2,c3,c4,c5,c6,c7,c8,c9⟩:=X;simp only at e1 e3;subst e1;subst e3
 repeat'(first|refine y1 ?_|refine y2 ?_ ?_|refine RegX.oLkE k _ hx rfl rfl rfl hk rfl rfl rfl rfl rfl ?_|refine RegX.tLk j rfl rfl rfl e2 rfl rfl rfl rfl rfl ?_|exact wv|refine y3 ?_|exact y5|fail)
 all_goals first
  |(show IntKind.i64.wrap ((nd:Int)+2)=(nd:Int)+2;exact aB aa aa)
  |(show IntKind.i64.wrap ((nd:Int)+3)=(nd:Int)+3;exact aB aa aa)
  |(show IntKind.i64.wrap ((nd:Int)+4)=(nd:Int)+4;exact aB aa aa)
  |(show nd+2<(T.getD j tZ).p.length;omega)
  |(show nd+3<(T.getD j tZ).p.length;omega)
  |(show nd+4<(T.getD j tZ).p.length;omega)
  |exact bK
section
variable {E:List Ent} {p:List Nd} {j:Nat}
def uM (x:Ent) (sp ba ln idx dat:Int):Ent:={x with sp:=sp,ba:=ba,ln:=ln,idx:=idx,dat:=dat}
def eB (sp ba ln idx dat:Int):List Int->List Ent->List Ent×Int
 |[],E=>(E,0)
 |u::us,E=>
  if fM sp ba ln (E.getD u.toNat eZ).bit (E.getD u.toNat eZ).len (E.getD u.toNat eZ).wid (E.getD u.toNat eZ).upd=true
  then eB sp ba ln idx dat us (E.set u.toNat (uM (E.getD u.toNat eZ) sp ba ln idx dat))
  else (E,1)
def bX (T:List Tb) (x:Ent) (o:Nat):Int:=((T.getD (x.tab-1).toNat tZ).p.getD (x.node.toNat+o) dN).int
def qX (r:Option Nat):List Int:=r.toList.map λ(n:Nat)=>(n:Int)
def gk (p:List Nd) (T:List Tb) (d:Fd) (i:Nat) (E:List Ent) (rs:List Int):List Ent×List Int×Int:=
 if (p.getD i dN).op=16 then
  match eY p E d.scope (i+1) 15 with
  |none=>(E,rs,6)
  |some k=>((eB (bX T (E.getD k eZ) 2) (bX T (E.getD k eZ) 3) (bX T (E.getD k eZ) 4) (-1) (-1) d.units E).1,rs++[(k:Int)],(eB (bX T (E.getD k eZ) 2) (bX T (E.getD k eZ) 3) (bX T (E.getD k eZ) 4) (-1) (-1) d.units E).2)
 else
  match eY p E d.scope (i+1) 18,eY p E d.scope (i+2) 18 with
  |some a,some c=>((eB 0 0 ((d.bits+8*aj p (i+3)-1).tdiv (8*aj p (i+3))*aj p (i+3)) a c d.units E).1,rs++[(a:Int)]++[(c:Int)],(eB 0 0 ((d.bits+8*aj p (i+3)-1).tdiv (8*aj p (i+3))*aj p (i+3)) a c d.units E).2)
  |a,c=>(E,rs++qX a++qX c,6)
abbrev hL (nt num:Int) (p:List Nd) (Eo:List Nat) (fc:S) (T:List Tb) (E:List Ent) (rs:List Int):Hp:=[(0,some (gD (E.length:Nat) nt num p Eo fc (.row 4 5 rs.length))),(1,some (oB E)),(2,some (pB E)),(3,some (tB T)),(4,h_ 4 rs)]
abbrev Mg (nt num:Int) (p:List Nd) (Eo:List Nat) (fc:S) (T:List Tb) (E:List Ent) (rs:List Int):Hp:=[(0,some (gD (E.length:Nat) nt num p Eo fc (.row 6 7 rs.length))),(1,some (oB E)),(2,some (pB E)),(3,some (tB T)),(4,none),(6,h_ 6 rs)]
theorem JY {nt num:Int} {Eo:List Nat} {T:List Tb} {rs:List Int} {x:Value}:fg 8 (Mg nt num p Eo (.cst x) T E rs)=true:=by
 unfold Mg h_;generalize List.map _ rs=cg
 cases cg<;>rfl
theorem jC {nt num:Int} {Eo:List Nat} {rs:List Int} {x:Value}:fg 6 (rL nt num p Eo (.cst x) E rs)=true:=by
 unfold rL h_;generalize List.map _ rs=cg
 cases cg<;>rfl
section
variable {P:Program} {fn:Func} {env:List V} {nt num:Int} {p:List Nd} {Eo:List Nat} {T:List Tb} {E:List Ent} {z z':Int} {e:Exit} {M:Hp} {m:Nat} {rs rs':List Int} {x:Value}
theorem Fin.sd (c:Nat) (hx:e=.ret\/e=.normal) (h0:lk M 0=some (gD (E.length:Nat) nt num p Eo (.cst x) (.row c (c+1) rs.length))) (h1:lk M 1=some (oB E)) (h2:lk M 2=some (pB E)) (h3:lk M 3=some (tB T)) (h4:lk M c=h_ c rs)
 (hr:gC P fn env M=some (.s (.int .i64 z'))) (hn:co (List.range 6++[c,c+1])=true) (hz:z'=z) (hf:rs=rs'):Fin P fn 6 (.s (.int .i64 z)) 8 (Mg nt num p Eo (.cst x) T E rs') e env m M:=by
 subst hz;subst hf;exact⟨hx,_,[c,c+1],ah _,fY hr ⟨h0,h1,h2,h3,bh h4 trivial⟩ rfl JY rfl hn⟩
end
theorem qm (a:Int) (s:By) (u:List Int) (b:Int):mr ⟨a,s,u,b⟩=[.int .i64 a,.str s,HN u,.int .i64 b]:=rfl
theorem mY {s:By} {i:Nat} {op:Int} {k:Nat} (h:eY p E s i op=some k):k<E.length/\(E.getD k eZ).op=op:=by
 unfold eY at h
 cases h1:fw E s (p.getD i dN).str with
 |none=>grind
 |some j=>
  rw[h1] at h;simp only at h;split at h
  ·cases h;exact⟨vX h1,‹_›⟩
  ·cases h
theorem Dy (nt num:Int) (p:List Nd) (Eo:List Nat) (x:Value) (s:S) (hs:Az s=false) (E:List Ent) (T:List Tb) (k:Nat) (hk:k<E.length) (sp ba ln:Int) (hr:RegAt T (E.getD k eZ) sp ba ln):
 FQ 128 [.s (.ptr (some (0,0))),nI k] 6 [(0,some (gD (E.length:Nat) nt num p Eo (.cst x) s)),(1,some (oB E)),(3,some (tB T))] (.agg [.int .i64 sp,.int .u64 ba,.int .u64 ln]) 6 [(0,some (gD (E.length:Nat) nt num p Eo (.cst x) s)),(1,some (oB E)),(3,some (tB T))]:=
 ⟨(vD nt num p Eo x x E T k hk sp ba ln hr).1,SC.cst (i:=0) (o:=9) (i':=0) (o':=9) (s:=s) rfl rfl rfl rfl hs rfl rfl λy hy=>(vD nt num p Eo x y E T k hk sp ba ln hr).2⟩
theorem CT {l:List Int} (h:j<l.length):l.getD j 0∈l:=ae
theorem zJ {l:List Int} (h:j<l.length):l.drop j=l.getD j 0::l.drop (j+1):=by
 rw[Z0k h,Z00,Z01 h];rfl
theorem DE (E:List Ent) (j:Nat) (a b c d e:Int):pB (E.set j (uM (E.getD j eZ) a b c d e))=pB E:=by
 unfold pB;rw[Z18,t_ E 0 j _ (λx hx=>by rw[Z00,hx];rfl)]
theorem A_ {a b c d e N:Int} (h:∀ k,(E.getD k eZ).bit<=N) (k:Nat):((E.set j (uM (E.getD j eZ) a b c d e)).getD k eZ).bit<=N:=by
 rw[Z00,Z1i];split
 ·split
  ·rename_i e1 _;subst e1;exact h j
  ·exact h E.length|>λ_=>by grind
 ·rw[<-Z00];exact h k
theorem BE (nt num:Int) (p:List Nd) (Eo:List Nat) (hw:oh p) (hI:li p) (x:Value) (T:List Tb) (E:List Ent) (rs:List Int) (hrs:rs.length<=50000) (d:Fd) (i:Nat) (hi:i+3<p.length) (hp:p.length<=2048) (hdn:d.node=i) (hds:d.scope.length<9223372036854775807) (hdu:∀ u∈d.units,0<=u/\u<E.length) (hul:d.units.length<=2048) (hb0:0<=d.bits) (hb1:d.bits<=20000000000)
 (hwd:(p.getD i dN).op≠16->1<=aj p (i+3)/\aj p (i+3)<=8) (hrg:∀ k,k<E.length->(E.getD k eZ).op=15->RegAt T (E.getD k eZ) (bX T (E.getD k eZ) 2) (bX T (E.getD k eZ) 3) (bX T (E.getD k eZ) 4)) (hbt:∀ k,(E.getD k eZ).bit<=1099511627776) (R:List Ent×List Int×Int) (hR:gk p T d i E rs=R):
 FQ 70 [.s (.ptr (some (0,0))),.agg (mr d)] 6 (hL nt num p Eo (.cst x) T E rs) (.s (.int .i64 R.2.2)) 8 (Mg nt num p Eo (.cst x) T R.1 R.2.1):=by
 obtain⟨dn,ds,du,db⟩:=d;simp only at hdn hds hdu hul hb0 hb1;subst hdn;unfold gk at hR;by_cases h16:(p.getD i dN).op=16
 ·rw[if_pos h16] at hR
  simp only at hR;have hf:=yM nt num p Eo hw x E rs aa ds hds (i+1) aa 15;rw[show ((i+1:Nat):Int)=(i:Int)+1 by omega] at hf;generalize hfn:eY p E ds (i+1) 15=r at hf hR
  cases r with
  |none=>
   simp only at hR;subst hR
   dsimp only
   rw[qm];refine wW Tryz.func70 ?_
   repeat'(first|refine yA ?_|refine y2 ?_ ?_|refine y4 λh=>?_|(refine wX ?_;refine jX [0,1,2,3,4,5] hf ?_ (wr:=[(0,some (gD (E.length:Nat) nt num p Eo (.cst x) (.row 8 9 (rs++[]).length))),(1,some (oB E)),(2,some (pB E)),(4,none),(8,h_ 8 (rs++[]))]) (k2:=jC))|exact y5|fail)
   exact Fin.sd 8 (.inl rfl) rfl rfl rfl rfl rfl rfl rfl rfl (Z0u _)
  |some k=>
   obtain⟨hk,hk15⟩:=mY hfn;have hrk:=hrg k hk hk15;have hreg:=Dy nt num p Eo x (.row 4 5 (rs++[(k:Int)]).length) rfl E T k hk _ _ _ hrk;simp only at hR
   have hrl:0<=bX T (E.getD k eZ) 4/\bX T (E.getD k eZ) 4<=1048576:=⟨hrk.l0,hrk.l1⟩
   have hrb:0<=bX T (E.getD k eZ) 3/\bX T (E.getD k eZ) 3<=9223372036854775808:=⟨hrk.b0,hrk.b1⟩
   generalize bX T (E.getD k eZ) 2=sp at*;generalize bX T (E.getD k eZ) 3=ba at*;generalize bX T (E.getD k eZ) 4=ln at*;generalize hU:eB sp ba ln (-1) (-1) du E=U at hR;subst hR
   dsimp only
   rw[qm];refine wW Tryz.func70 ?_
   repeat'(first|refine yA ?_|refine y2 ?_ ?_|refine y4 λh=>?_|(refine wX ?_;refine jX [0,1,2,3,4,5] hf ?_ (wr:=[(0,some (gD (E.length:Nat) nt num p Eo (.cst x) (.row 8 9 (rs++[(k:Int)]).length))),(1,some (oB E)),(2,some (pB E)),(4,none),(8,h_ 8 (rs++[(k:Int)]))]) (k2:=jC))|refine wX (bD [0,1,2,3,8,9] hreg ?_)|exact y5|fail)
   refine cy (σ:=Nat×List Ent) (λq=>[(98,nI q.1)]) (λq=>[(0,some (gD (q.2.length:Nat) nt num p Eo (.cst x) (.row 8 9 (rs++[(k:Int)]).length))),(1,some (oB q.2)),(2,some (pB q.2)),(3,some (tB T)),(7,some {cells:=[.int .i64 sp,.int .u64 ba,.int .u64 ln],ty:=82}),(8,h_ 8 (rs++[(k:Int)]))]) (λq=>q.1<=du.length/\q.2.length=E.length/\(∀ k,(q.2.getD k eZ).bit<=1099511627776)/\eB sp ba ln (-1) (-1) (du.drop q.1) q.2=U) (λq=>du.length-q.1) (0,E) rfl (λ_=>rfl) ⟨Z08 _,rfl,hbt,hU⟩ aP ⟨rfl,rfl,rfl,rfl,rfl,fF rfl trivial⟩ ?_;rintro⟨j,E1⟩ ⟨j1,j2,j3,j4⟩;simp only at j1 j2 j3 j4 |-;by_cases hj:j<du.length
   ·have hu:=hdu (du.getD j 0) (CT hj)
    rw[zJ hj] at j4;obtain⟨n,hn⟩:=Z2a hu.1;have hn':(du.getD j 0).toNat=n:=aa;have hv:=zG sp ba ln (E1.getD n eZ).bit (E1.getD n eZ).len (E1.getD n eZ).wid (E1.getD n eZ).upd (-1) (-1) hrb.1 hrb.2 hrl.1 aa (j3 n);rw[eB,hn'] at j4
    cases hvb:fM sp ba ln (E1.getD n eZ).bit (E1.getD n eZ).len (E1.getD n eZ).wid (E1.getD n eZ).upd with
    |false=>
     rw[hvb] at j4 hv;rw[if_neg aq] at j4;subst j4
     repeat'(first|refine y1 ?_|refine y2 ?_ ?_|refine y4 λh=>?_|refine bG hv ?_|refine RegX.oLk n rfl rfl hn aa rfl rfl rfl rfl rfl ?_|refine y3 ?_|exact y5|fail)
     exact Fin.sd 8 (.inl rfl) rfl rfl rfl rfl rfl rfl rfl rfl rfl
    |true=>
     rw[hvb] at j4 hv;rw[if_pos rfl] at j4
     repeat'(first|refine y1 ?_|refine y2 ?_ ?_|refine y4 λh=>?_|refine bG hv ?_|refine RegX.oLk n rfl rfl hn aa rfl rfl rfl rfl rfl ?_|refine RegX.oUpd n (uM (E1.getD n eZ) sp ba ln (-1) (-1)) rfl rfl hn aa (ah _) rfl rfl rfl rfl ?_|refine y3 ?_|exact y5|fail)
     have hls:= @Z18 _ E1 n (uM (E1.getD n eZ) sp ba ln (-1) (-1));refine dz (j+1,E1.set n (uM (E1.getD n eZ) sp ba ln (-1) (-1))) ⟨ae,ae,A_ j3,j4⟩ ae rfl aP ⟨?_,rfl,?_,rfl,rfl,fF rfl trivial⟩ rfl ?_ ac
     ·simp only[hls];rfl
     ·simp only[DE];rfl
     ·unfold h_
      generalize List.map _ (rs++[(k:Int)])=cu
      cases cu<;>rfl
   ·have hd:du.drop j=[]:=ae
    rw[hd] at j4;simp only[eB] at j4;subst j4
    repeat'(first|refine yA ?_|refine y2 ?_ ?_|refine y4 λh=>?_|exact y5|fail)
    all_goals exact Fin.sd 8 (.inl rfl) rfl rfl rfl rfl rfl rfl rfl rfl rfl
 ·rw[if_neg h16] at hR
  obtain⟨w1,w8⟩:=hwd h16;have hf1:=yM nt num p Eo hw x E rs aa ds hds (i+1) aa 18;rw[show ((i+1:Nat):Int)=(i:Int)+1 by omega] at hf1;generalize hfn1:eY p E ds (i+1) 18=r1 at hf1 hR;have hf2:=yM nt num p Eo hw x E (rs++qX r1) (by unfold qX;cases r1<;>simp<;>omega) ds hds (i+2) aa 18;rw[show ((i+2:Nat):Int)=(i:Int)+2 by omega] at hf2;generalize hfn2:eY p E ds (i+2) 18=r2 at hf2 hR
  cases r1 with
  |none=>
   dsimp only at hR
   subst hR
   dsimp only
   rw[qm];refine wW Tryz.func70 ?_
   repeat'(first|refine yA ?_|refine y2 ?_ ?_|refine y4 λh=>?_|(refine wX ?_;refine jX [0,1,2,3,4,5] hf1 ?_ (wr:=[(0,some (gD (E.length:Nat) nt num p Eo (.cst x) (.row 8 9 (rs++[]).length))),(1,some (oB E)),(2,some (pB E)),(4,none),(8,h_ 8 (rs++[]))]) (k2:=jC))|(refine wX ?_;refine jX [0,1,2,3,8,9] hf2 ?_ (wr:=[(0,some (gD (E.length:Nat) nt num p Eo (.cst x) (.row 10 11 (rs++[]++qX r2).length))),(1,some (oB E)),(2,some (pB E)),(8,none),(10,h_ 10 (rs++[]++qX r2))]) (k2:=jC))|exact y5|fail)
   exact Fin.sd 10 (.inl rfl) rfl rfl rfl rfl rfl rfl rfl rfl rfl
  |some a=>
  cases r2 with
  |none=>
   dsimp only at hR
   subst hR
   dsimp only
   rw[qm];refine wW Tryz.func70 ?_
   repeat'(first|refine yA ?_|refine y2 ?_ ?_|refine y4 λh=>?_|(refine wX ?_;refine jX [0,1,2,3,4,5] hf1 ?_ (wr:=[(0,some (gD (E.length:Nat) nt num p Eo (.cst x) (.row 8 9 (rs++[(a:Int)]).length))),(1,some (oB E)),(2,some (pB E)),(4,none),(8,h_ 8 (rs++[(a:Int)]))]) (k2:=jC))|(refine wX ?_;refine jX [0,1,2,3,8,9] hf2 ?_ (wr:=[(0,some (gD (E.length:Nat) nt num p Eo (.cst x) (.row 10 11 (rs++[(a:Int)]++[]).length))),(1,some (oB E)),(2,some (pB E)),(8,none),(10,h_ 10 (rs++[(a:Int)]++[]))]) (k2:=jC))|exact y5|fail)
   exact Fin.sd 10 (.inl rfl) rfl rfl rfl rfl rfl rfl rfl rfl rfl
  |some c=>
   dsimp only at hR
   unfold aj at w1 w8 hR;have hd0:0<=(db+8*(p.getD (i+3) dN).int-1).tdiv (8*(p.getD (i+3) dN).int):=Z5r aa aa;have hd1:(db+8*(p.getD (i+3) dN).int-1).tdiv (8*(p.getD (i+3) dN).int)<=db+8*(p.getD (i+3) dN).int-1:=Z5l _ aa;have hl0:0<=(db+8*(p.getD (i+3) dN).int-1).tdiv (8*(p.getD (i+3) dN).int)*(p.getD (i+3) dN).int:=Z5y hd0 aa
   have hl1:(db+8*(p.getD (i+3) dN).int-1).tdiv (8*(p.getD (i+3) dN).int)*(p.getD (i+3) dN).int<=1099511627776:=by
    have:=Int.mul_le_mul hd1 w8 aa aa;omega
   have wv1:IntKind.i64.wrap (p.getD (i+3) dN).int=(p.getD (i+3) dN).int:=aB aa aa;have wv2:IntKind.i64.wrap (8*(p.getD (i+3) dN).int)=8*(p.getD (i+3) dN).int:=aB aa aa;have wv3:IntKind.i64.wrap (db+8*(p.getD (i+3) dN).int)=db+8*(p.getD (i+3) dN).int:=aB aa aa;have wv4:IntKind.i64.wrap (db+8*(p.getD (i+3) dN).int-1)=db+8*(p.getD (i+3) dN).int-1:=aB aa aa;have wv5:IntKind.i64.wrap ((db+8*(p.getD (i+3) dN).int-1).tdiv (8*(p.getD (i+3) dN).int))=(db+8*(p.getD (i+3) dN).int-1).tdiv (8*(p.getD (i+3) dN).int):=aB aa aa;have wv6:IntKind.i64.wrap ((db+8*(p.getD (i+3) dN).int-1).tdiv (8*(p.getD (i+3) dN).int)*(p.getD (i+3) dN).int)=(db+8*(p.getD (i+3) dN).int-1).tdiv (8*(p.getD (i+3) dN).int)*(p.getD (i+3) dN).int:=aB aa aa;have wv7:IntKind.u64.wrap ((db+8*(p.getD (i+3) dN).int-1).tdiv (8*(p.getD (i+3) dN).int)*(p.getD (i+3) dN).int)=(db+8*(p.getD (i+3) dN).int-1).tdiv (8*(p.getD (i+3) dN).int)*(p.getD (i+3) dN).int:=aU aa aa;rw[qm];refine wW Tryz.func70 ?_
   repeat'(first|refine y1 ?_|refine y2 ?_ ?_|refine y4 λh=>?_|(refine wX ?_;refine jX [0,1,2,3,4,5] hf1 ?_ (wr:=[(0,some (gD (E.length:Nat) nt num p Eo (.cst x) (.row 8 9 (rs++[(a:Int)]).length))),(1,some (oB E)),(2,some (pB E)),(4,none),(8,h_ 8 (rs++[(a:Int)]))]) (k2:=jC))|(refine wX ?_;refine jX [0,1,2,3,8,9] hf2 ?_ (wr:=[(0,some (gD (E.length:Nat) nt num p Eo (.cst x) (.row 10 11 (rs++[(a:Int)]++[(c:Int)]).length))),(1,some (oB E)),(2,some (pB E)),(8,none),(10,h_ 10 (rs++[(a:Int)]++[(c:Int)]))]) (k2:=jC))|exact wv1|exact wv2|exact wv3|exact wv4|exact wv5|exact wv6|exact wv7|refine y3 ?_|exact y5|fail)
   generalize (db+8*(p.getD (i+3) dN).int-1).tdiv (8*(p.getD (i+3) dN).int)*(p.getD (i+3) dN).int=ln at*;generalize hU:eB 0 0 ln a c du E=U at hR;subst hR
   dsimp only
   refine cy (σ:=Nat×List Ent) (λq=>[(98,nI q.1)]) (λq=>[(0,some (gD (q.2.length:Nat) nt num p Eo (.cst x) (.row 10 11 (rs++[(a:Int)]++[(c:Int)]).length))),(1,some (oB q.2)),(2,some (pB q.2)),(3,some (tB T)),(7,some {cells:=[.int .i64 0,.int .u64 0,.int .u64 ln],ty:=82}),(10,h_ 10 (rs++[(a:Int)]++[(c:Int)]))]) (λq=>q.1<=du.length/\q.2.length=E.length/\(∀ k,(q.2.getD k eZ).bit<=1099511627776)/\eB 0 0 ln a c (du.drop q.1) q.2=U) (λq=>du.length-q.1) (0,E) rfl (λ_=>rfl) ⟨Z08 _,rfl,hbt,hU⟩ aP ⟨rfl,rfl,rfl,rfl,rfl,fF rfl trivial⟩ ?_;rintro⟨j,E1⟩ ⟨j1,j2,j3,j4⟩;simp only at j1 j2 j3 j4 |-;by_cases hj:j<du.length
   ·have hu:=hdu (du.getD j 0) (CT hj)
    rw[zJ hj] at j4;obtain⟨n,hn⟩:=Z2a hu.1;have hn':(du.getD j 0).toNat=n:=aa;have hv:=zG 0 0 ln (E1.getD n eZ).bit (E1.getD n eZ).len (E1.getD n eZ).wid (E1.getD n eZ).upd a c aa aa hl0 hl1 (j3 n);rw[eB,hn'] at j4
    cases hvb:fM 0 0 ln (E1.getD n eZ).bit (E1.getD n eZ).len (E1.getD n eZ).wid (E1.getD n eZ).upd with
    |false=>
     rw[hvb] at j4 hv;rw[if_neg aq] at j4;subst j4
     repeat'(first|refine y1 ?_|refine y2 ?_ ?_|refine y4 λh=>?_|refine bG hv ?_|refine RegX.oLk n rfl rfl hn aa rfl rfl rfl rfl rfl ?_|refine y3 ?_|exact y5|fail)
     exact Fin.sd 10 (.inl rfl) rfl rfl rfl rfl rfl rfl rfl rfl rfl
    |true=>
     rw[hvb] at j4 hv;rw[if_pos rfl] at j4
     repeat'(first|refine y1 ?_|refine y2 ?_ ?_|refine y4 λh=>?_|refine bG hv ?_|refine RegX.oLk n rfl rfl hn aa rfl rfl rfl rfl rfl ?_|refine RegX.oUpd n (uM (E1.getD n eZ) 0 0 ln a c) rfl rfl hn aa (ah _) rfl rfl rfl rfl ?_|refine y3 ?_|exact y5|fail)
     have hls:= @Z18 _ E1 n (uM (E1.getD n eZ) 0 0 ln a c);refine dz (j+1,E1.set n (uM (E1.getD n eZ) 0 0 ln a c)) ⟨ae,ae,A_ j3,j4⟩ ae rfl aP ⟨?_,rfl,?_,rfl,rfl,fF rfl trivial⟩ rfl ?_ ac
     ·simp only[hls];rfl
     ·simp only[DE];rfl
     ·unfold h_
      generalize List.map _ (rs++[(a:Int)]++[(c:Int)])=cu
      cases cu<;>rfl
   ·have hd:du.drop j=[]:=ae
    rw[hd] at j4;simp only[eB] at j4;subst j4
    repeat'(first|refine yA ?_|refine y2 ?_ ?_|refine y4 λh=>?_|exact y5|fail)
    all_goals exact Fin.sd 10 (.inl rfl) rfl rfl rfl rfl rfl rfl rfl rfl rfl
end
inductive DocS (ts:List Tk):Nat->Nat->List Nd->List Nd->Prop
 |nil {out:List Nd}:DocS ts 0 ts.length out out
 |cons {n i i1:Nat} {out out1 out2:List Nd} (hi:i<ts.length) (hn:jZ ts 68 i out i1 out1) (r:DocS ts n i1 out1 out2):DocS ts (n+1) i out out2
theorem BI {a:Nd} {j:Nat} {x:S} (h:(ndC a)[j]? =some x):bL x=true:=by
 rcases j with _|_|_|_|j
 ·cases h;rfl
 ·cases h;rfl
 ·cases h;rfl
 ·cases h;rfl
 ·simp[ndC] at h
theorem Hi (s:By) (ts:List Tk) (n:Nat) (p:List Nd) (hT:TokS s 0 ts) (hl0:s.length<=65536) (hn:∀ j,s.getD j 0≠47) (hts:ts.length<=100000) (hD:DocS ts n 0 [] p) (hp:p≠[]) (hw:kO p) (hv:eR p=true):FQ 44 [sV s] 0 [] (.tup [.s (.frz (λk=>ndC (p.getD k dN)) 4 p.length),.s (.int .i64 0),.s (.int .i64 0)]) 0 []:=by
 have hsc:=JG s ts hT hl0 hn hts;have hva:=kP p hw;rw[hv] at hva;refine wW Tryz.func44 ?_
 repeat'(first|refine yA ?_|refine y2 ?_ ?_|refine y4 λh=>?_|refine an hsc ?_|exact y5|fail)
 refine Ex.celP 0 2 (s':=.row 1 2 0) rfl rfl SLe.nilrow rfl (Ex.upN (n':=3) ac ?_);refine cy (σ:=Nat×Nat×List Nd) (λs=>[]) (λs=>[(0,some (ti 1 2 ts s.2.1 s.2.2.length)),(1,nB 1 s.2.2)]) (λs=>DocS ts s.1 s.2.1 s.2.2 p) (λs=>s.1) (n,0,[]) rfl (λ_=>rfl) hD trivial ⟨rfl,fF rfl trivial⟩ ?_;clear hD hT;rintro⟨n,i,o⟩ d;simp only at d |-
 cases d with
 |nil=>
  obtain⟨x0,o,rfl⟩:∃ x0 o,p=x0::o:=by
   cases p with
   |nil=>exact absurd rfl hp
   |cons x0 o=>exact⟨x0,o,rfl⟩
  refine Ex.celP 0 2 (s':=.sla 1 2 (o.length+1)) rfl rfl (SLe.rowsla (Z1n _)) rfl ?_;refine Ex.fzC 0 2 (λk=>ndC ((x0::o).getD k dN)) 4 (i:=1) (N:=(x0::o).length) rfl ac rfl rfl rfl rfl rfl (λ_ _=>rfl) (λk j x hk hx=>⟨cq ndC 4 dN (λ_=>rfl) (l:=x0::o) hk hx,BI hx⟩) rfl ?_
  repeat'(first|refine yA ?_|refine y2 ?_ ?_|refine y4 λh=>?_|refine an hva ?_|exact y5|fail)
  all_goals exact jk (.inl rfl) rfl rfl rfl
 | @cons n _ i1 _ out1 _ hi hn r=>
   repeat'(first|refine yA ?_|refine y2 ?_ ?_|refine y4 λh=>?_|(refine wX ?_;refine jX [0,1,2] hn ?_ (wr:=[(0,some (ti 3 4 ts i1 out1.length)),(1,none),(3,nB 3 out1)]) (k2:=gT))|exact y5|fail)
   refine fX (n,i1,out1) r (by show n<n+1;omega) [0,3,4] rfl ?_ ?_ ?_
   ·repeat'(first|exact ah _|exact dd _|exact Z0o|refine⟨?_,?_⟩)
   ·exact⟨rfl,bh rfl trivial⟩
   ·unfold nB
    generalize List.flatMap _ _=cg
    cases cg<;>rfl
section
variable {i:Nat} {s:By} {ts:List Tk}
theorem Ma:FQ 204 [sV [49]] 0 [] (.tup [.s (.int .u64 1),.s (.bool true)]) 0 []:=by
 have hd:=l8 49;rw[show k_ 49=true from rfl] at hd;refine wW Tryz.func204 ?_
 repeat'(first|refine y1 ?_|refine y2 ?_ ?_|refine y4 λh=>?_|refine bG hd ?_|refine Ex.unroll 2 ?_|refine y3 ?_|exact y5|fail)
 all_goals exact jk (.inl rfl) rfl rfl rfl
def awS:By:=[68,101,118,105,99,101,32,40,88,41,32,123,78,97,109,101,32,40,95,65,68,82,44,32,49,41,125]
abbrev MN (s:By) (i:Nat) (t:Tk) (k:Nat):Prop:=FQ 136 [sV s,nI i] 0 [] (Lb t (k:Nat)) 0 []
theorem I8 (w:By) (k:Nat) (h0:jM s i=k) (h1:(s.take k).drop i=w) (hb:(decide (i<s.length/\s.length<1000000000/\k<=i+32/\k<=s.length)&&(gr ((s.getD i 0).toNat:Int)&&qY w))=true):MN s i ⟨2,0,w,(i:Nat)⟩ k:=by
 subst h0;subst h1;simp only[Z07,decide_eq_true_eq] at hb;obtain⟨⟨a,b,c,d⟩,e,f⟩:=hb;exact HJ s i a b e f c d
theorem I7 (w:By) (k:Nat) (h0:jM s i=k) (h1:(s.take k).drop i=w) (hb:(decide (i<s.length/\s.length<1000000000/\k<s.length/\s.getD k 0≠46)&&(gr ((s.getD i 0).toNat:Int)&&(!qY w&&a_ w)))=true):MN s i ⟨1,0,w,(i:Nat)⟩ k:=by
 subst h0;subst h1;simp only[Z07,decide_eq_true_eq,Z0v] at hb;obtain⟨⟨a,b,c,d⟩,e,f,g⟩:=hb;exact HI s i a b e f g c d
theorem L_ (w:By) (v:Int) (k:Nat) (h0:jM s i=k) (h1:(s.take k).drop i=w) (hb:(decide (i<s.length/\s.length<1000000000/\k<=s.length)&&(!gr ((s.getD i 0).toNat:Int)&&k_ ((s.getD i 0).toNat:Int)))=true) (hv:FQ 204 [sV w] 0 [] (.tup [.s (.int .u64 v),.s (.bool true)]) 0 []):MN s i ⟨3,v,[],(i:Nat)⟩ k:=by
 subst h0;subst h1;simp only[Z07,decide_eq_true_eq,Z0v] at hb;obtain⟨⟨a,b,c⟩,e,f⟩:=hb;exact HK s i v a b e f c hv
theorem qa (c:Int) (z:Int) (hb:decide (i<s.length/\s.length<1000000000/\((s.getD i 0).toNat:Int)=c/\(c=40\/c=41\/c=123\/c=125\/c=44)/\x8 c=z)=true):MN s i ⟨z,0,[],(i:Nat)⟩ (i+1):=by
 obtain⟨a,b,c,d,e⟩:=of_decide_eq_true hb;subst e;exact HH s i _ a b c d
abbrev awTk:List Tk:=[⟨2,0,[68,101,118,105,99,101],(0:Nat)⟩,⟨5,0,[],(7:Nat)⟩,⟨1,0,[88],(8:Nat)⟩,⟨6,0,[],(9:Nat)⟩,⟨7,0,[],(11:Nat)⟩,⟨2,0,[78,97,109,101],(12:Nat)⟩,⟨5,0,[],(17:Nat)⟩,⟨1,0,[95,65,68,82],(18:Nat)⟩,⟨9,0,[],(22:Nat)⟩,⟨3,1,[],(24:Nat)⟩,⟨6,0,[],(25:Nat)⟩,⟨8,0,[],(26:Nat)⟩]
theorem TokS.go (j:Nat) {k:Nat} {t:Tk} (hb:decide (i<=s.length/\LB s i=j/\j<s.length)=true) (hit:MN s j t k) (r:TokS s k ts):TokS s i (t::ts):=by
 obtain⟨a,b,c⟩:=of_decide_eq_true hb;exact TokS.cons a b c hit r
theorem KS:TokS awS 0 awTk:=
 .go 0 rfl (I8 _ 6 rfl rfl rfl)<| .go 7 rfl (qa 40 5 rfl)<| .go 8 rfl (I7 _ 9 rfl rfl rfl)<| .go 9 rfl (qa 41 6 rfl)<| .go 11 rfl (qa 123 7 rfl)<| .go 12 rfl (I8 _ 16 rfl rfl rfl)<| .go 17 rfl (qa 40 5 rfl)<| .go 18 rfl (I7 _ 22 rfl rfl rfl)<| .go 22 rfl (qa 44 9 rfl)<| .go 24 rfl (L_ [49] 1 25 rfl rfl rfl Ma)<| .go 25 rfl (qa 41 6 rfl)<| .go 26 rfl (qa 125 8 rfl)<| .nil ac rfl
def awP:List Nd:=[⟨11,0,[],2⟩,⟨3,0,[88],0⟩,⟨4,0,[],1⟩,⟨13,0,[],2⟩,⟨3,0,[95,65,68,82],0⟩,⟨1,1,[],0⟩]
theorem I5 {m:Nat} (w:By) (op:Int) (hts:ts.length<=100000) (hi:i<ts.length) (hk:(ts.getD i n_).kind=2) (hw:(ts.getD i n_).str=w) (hb:(decide (w.length<=1000/\ ¬(w.length=6/\w.take 5=[76,111,99,97,108]))&&decide (¬(w.length=4/\w.take 3=[65,114,103])))=true) (ho:(sF w rowsL).1.1=op):sD ts i m ⟨op,0,[],0⟩:=by
 subst hw;simp only[Z07,decide_eq_true_eq] at hb;exact Hx ts i m hts hi hk hb.1.1 hb.1.2 hb.2 op ho
theorem I3 {out:List Nd} (w:By) (k:Int) (hts:ts.length<=100000) (hi:i<ts.length) (ho:out.length<=100000) (hkd:(ts.getD i n_).kind=1) (hw:(ts.getD i n_).str=w) (hk:k≠83/\k≠101) (hp:bH k 3=true) (hs:k=115->a_ w=true) (hl:w.length<=1000) (hpp:(ai w).2=true):jZ ts k i out (i+1) (out++[⟨3,0,w,0⟩]):=by
 subst hw;exact rK ts k i out _ hts hi ho (Hw ts i out.length hts hi hkd hl hpp) (.inr rfl) hk hp hs hl
theorem KU:DocS awTk 1 0 [] awP:=by
 have h1:jZ awTk 100 9 [⟨11,0,[],2⟩,⟨3,0,[88],0⟩,⟨4,0,[],1⟩,⟨13,0,[],2⟩,⟨3,0,[95,65,68,82],0⟩] 10 awP:=
  rK awTk 100 9 _ ⟨1,1,[],0⟩ ac ac ac (Hy awTk 9 5 ac ac rfl) (.inl rfl) ac rfl ac ac
 have h2:jZ awTk 115 7 [⟨11,0,[],2⟩,⟨3,0,[88],0⟩,⟨4,0,[],1⟩,⟨13,0,[],2⟩] 8 [⟨11,0,[],2⟩,⟨3,0,[88],0⟩,⟨4,0,[],1⟩,⟨13,0,[],2⟩,⟨3,0,[95,65,68,82],0⟩]:=
  I3 [95,65,68,82] 115 ac ac ac rfl rfl ac rfl (λ_=>rfl) ac rfl
 have h3:jZ awTk 68 5 [⟨11,0,[],2⟩,⟨3,0,[88],0⟩,⟨4,0,[],1⟩] 11 awP:=by
  refine vP awTk 68 5 11 _ awP 13 ac ac ac (I5 [78,97,109,101] 13 ac ac rfl rfl rfl rfl) (.inr rfl) ac rfl ?_;exact qy awTk ac [115,100] [] ac 3 6 10 11 _ awP awP ac ac rfl ac (.cons rfl (λh=>by cases h) (λ_=>rfl) h2 (.cons rfl (λ_=>⟨rfl,rfl,ac⟩) (λh=>by cases h) h1 .nil)) rfl ac .nil
 have h4:zB awTk 68 4 [⟨11,0,[],2⟩,⟨3,0,[88],0⟩] 12 awP:=
  Ig awTk ac 68 ac 1 4 11 _ awP ac ac rfl ac (.cons (c:=0) ac h3 ac ac rfl .nil) rfl ac
 have h5:jZ awTk 115 2 [⟨11,0,[],2⟩] 3 [⟨11,0,[],2⟩,⟨3,0,[88],0⟩]:=
  I3 [88] 115 ac ac ac rfl rfl ac rfl (λ_=>rfl) ac rfl
 have h6:jZ awTk 68 0 [] 12 awP:=by
  refine vP awTk 68 0 12 [] awP 11 ac ac ac (I5 [68,101,118,105,99,101] 11 ac ac rfl rfl rfl rfl) (.inl rfl) ac rfl ?_;exact qy awTk ac [115] [68] ac 0 1 3 12 _ _ awP ac ac rfl ac (.cons rfl (λh=>by cases h) (λ_=>rfl) h5 .nil) rfl ac (.cons rfl h4 .nil)
 exact .cons ac h6 .nil
theorem Hj:FQ 44 [sV [68,101,118,105,99,101,32,40,88,41,32,123,78,97,109,101,32,40,95,65,68,82,44,32,49,41,125]] 0 [] (.tup [.s (.frz (λk=>ndC (awP.getD k dN)) 4 6),.s (.int .i64 0),.s (.int .i64 0)]) 0 []:=by
 refine Hi awS awTk 1 awP KS ac ?_ ac KU ac ?_ rfl
 ·intro j
  by_cases h:j<27
  ·revert j;decide
  ·rw[Z00,Z0b (by show 27<=j;omega)];decide
 ·intro x hx
  simp only[awP,Z0h,Z3t,or_false] at hx
  rcases hx with rfl|rfl|rfl|rfl|rfl|rfl<;>decide
end
section
variable {c op kids:Int} {i:Nat} {sl:Bool×Int}
theorem mS {Q:Int->UInt8->Bool} (h1:∀ op∈opsL,(cQ op).2.all (Q op)=true) (h5:Q 5 101=true) (h33:Q 33 101=true) (h31:(Q 31 101&&Q 31 83)=true) (h:bH c op=true):∀ b∈(av op kids).1,Q op b=true:=by
 have he7:∀ n:Nat,∀ b∈e7.take n,b=101:=λn b hb=>by
  have:=Z2x hb;unfold e7 at this
  grind
 unfold av;split
 ·grind
 ·split
  ·grind
  ·split
   ·grind
   ·rename_i n5 n33 n31
    rcases pc h with h|h
    ·grind
    ·rcases h with rfl|rfl|rfl|rfl|rfl|rfl
     all_goals
      first
       |exact absurd rfl n5
       |(rw[show (cQ _).2=[] by decide+kernel];intro b hb;simp at hb)
def IU (op:Int) (b:UInt8):Bool:=decide (b≠70)||decide (op=16\/op=17)
def Ak (op:Int) (b:UInt8):Bool:=(decide (b≠83)||decide (op=14\/op=31\/op=32))&&(decide (b≠101/\b≠116)||decide (op=5\/30<=op/\op<=42\/60<=op/\op<=88))
theorem yw (h:bH c op=true):∀ b∈(av op kids).1,IU op b=true:=mS (by decide+kernel) ac ac ac h
theorem kW (h:bH c op=true):∀ b∈(av op kids).1,Ak op b=true:=mS (by decide+kernel) ac ac ac h
theorem eS {ks:By} (h:sl∈dB ks):∃ b∈ks,sl=(dY (b.toNat:Int),(b.toNat:Int)):=by
 obtain⟨b,hb,e⟩:=Z1d.1 h
 grind
abbrev oe (p:List Nd) (t:Fo) (j:Nat) (sl:Bool×Int):Prop:=(Fo.cons (p.getD j dN) (t.kid 0 j) .nil).V [sl]
theorem eq {p:List Nd}:∀ {t:Fo} {j i:Nat} {cs:List (Bool×Int)},t.At p j->t.V cs->i∈t.starts j->∃ sl∈cs,(Fo.cons (p.getD i dN) (t.kid j i) .nil).V [sl]
 | .nil,_,_,_,_,_,h=>by simp[Fo.starts] at h
 | .cons x k n,j,i,cs,ha,hv,h=>by
   simp only[Fo.starts,Z0h] at h;have hx:=At.get ha
   obtain⟨sl,cs',rfl,hv1,hv2⟩:∃ sl cs',cs=sl::cs'/\(Fo.cons x k .nil).V [sl]/\n.V cs':=by
    match cs,hv with
    |(true,c)::cs',⟨h1,h2,h3⟩=>exact⟨_,_,rfl,⟨h1,h2,trivial⟩,h3⟩
    |(false,c)::cs',⟨h1,h2,h3⟩=>exact⟨_,_,rfl,⟨h1,h2,trivial⟩,h3⟩
   unfold Fo.kid;by_cases e:i=j
   ·grind
   ·have h:=h.resolve_left e
    have:=bC h;rw[if_neg e,if_neg aa];obtain⟨s,hs,g⟩:=eq ha.2.2.2 hv2 h
    grind
section
variable {p:List Nd} {t:Fo}
theorem lw (ha:t.At p 0) (hi:i<t.size) (hv:oe p t i sl) {cs:List (Bool×Int)} (hvt:t.V cs) {j:Nat} (hj:j∈(t.kid 0 i).starts (i+1)):
 ∃ sl',oe p t j sl'/\((sl.1=true/\sl'=(false,sl.2)/\(p.getD i dN).op=4)\/(sl.1=false/\bH sl.2 (p.getD i dN).op=true/\sl'∈dB (av (p.getD i dN).op (p.getD i dN).kids).1)):=by
 obtain⟨_,h1,_⟩:=cM ha hvt (Z08 i) (aa:i<0+t.size);have hk:=h1.2.2.1;have hr:=bC hj;have e:=(ct ha (Z08 i) aa (aa:i<j) aa ini).1;obtain⟨b,c⟩:=sl;unfold oe;rw[e];cases b
 ·obtain⟨s,hs,g⟩:=eq hk hv.2.1 hj
  exact⟨s,g,.inr ⟨rfl,hv.1.1,hs⟩⟩
 ·obtain⟨s,hs,g⟩:=eq hk hv.2.1 hj
  have:=(Z3b.1 hs).2;subst this;exact⟨_,g,.inl ⟨rfl,rfl,hv.1.1⟩⟩
theorem MI:bH c 4=false:=by
 unfold bH
 repeat'(first|rfl|split)
theorem iB (hv:oe p t i sl):sl.1=true↔(p.getD i dN).op=4:=by
 obtain⟨b,c⟩:=sl;cases b
 ·refine⟨λh=>(by cases h),λh=>?_⟩
  have:=hv.1.1;rw[h,MI] at this;cases this
 ·exact⟨λ_=>hv.1.1,λ_=>rfl⟩
theorem ii (ha:t.At p 0) (hv:t.V (List.replicate t.cnt (false,68))) {j:Nat} (hj:j<t.size):
 ∃ sl,oe p t j sl/\((aF t j=ini/\sl=(false,68))\/∃ m slm,m<j/\aF t j=bq (p.getD m dN) (aw (t.kid 0 m)) m (aF t m)/\j∈(t.kid 0 m).starts (m+1)/\oe p t m slm/\
   ((slm.1=true/\sl=(false,slm.2)/\(p.getD m dN).op=4)\/(slm.1=false/\bH slm.2 (p.getD m dN).op=true/\sl∈dB (av (p.getD m dN).op (p.getD m dN).kids).1))):=by
 rcases e_ ha hj with ⟨h1,h2⟩|⟨m,h2,h3,h4⟩
 ·grind [eq]
 ·obtain⟨slm,_,hm⟩:=cM ha hv (Z08 m) (aa:m<0+t.size)
  obtain⟨sl,g1,g2⟩:=lw ha aa hm hv h4;exact⟨sl,g1,.inr ⟨m,slm,h2,(fi ha aa h4).2.2,h4,hm,g2⟩⟩
theorem xk (h:bH c 18=true):c=70:=by
 unfold bH at h
 repeat'(first|(split at h)|(first|exact absurd h ac|assumption))
theorem nE (h:bH 70 op=true):op=18\/op=19:=by
 grind [dy,bH]
theorem iH (ha:t.At p 0) {m:Nat} (hm:m<t.size) (hi:m<i) (hi2:i<m+1+(t.kid 0 m).size):i+1+(t.kid 0 i).size<=m+1+(t.kid 0 m).size:=by
 rw[(ct ha (Z08 m) aa hi hi2 ini).1];exact bv aa aa
theorem zI (ha:t.At p 0) (hv:t.V (List.replicate t.cnt (false,68))) (hi:i<t.size) (hop:(p.getD i dN).op=18):
 ∃ f b:Nat,f<b/\b<i/\(aF t i).pa=(b:Int)/\(aF t b).pa=(f:Int)/\(p.getD b dN).op=4/\((p.getD f dN).op=16\/(p.getD f dN).op=17)/\i∈(t.kid 0 b).starts (b+1)/\b∈(t.kid 0 f).starts (f+1)/\
   ∀ k∈(t.kid 0 b).starts (b+1),(p.getD k dN).op=18\/(p.getD k dN).op=19:=by
 obtain⟨sl,h1,h2⟩:=ii ha hv hi
 have hs:sl=(false,70):=by
  obtain⟨b,c⟩:=sl
  have hb:b=false:=by
   cases b
   ·rfl
   ·exact absurd ((iB h1).1 rfl) ae
  subst hb;have:=xk (by have:=h1.1.1;rwa [hop] at this);rw[this]
 subst hs
 rcases h2 with ⟨_,h⟩|⟨b,slm,hbi,hcb,hib,hnb,h⟩
 ·cases h
 have hb4:(p.getD b dN).op=4:=by
  rcases h with ⟨_,_,h⟩|⟨_,_,h⟩
  ·exact h
  ·obtain⟨x,_,e⟩:=eS h
   simp only[Z0j] at e;rw[<-e.2] at e;exact absurd e.1 ac
 obtain⟨sb,g1,g2⟩:=ii ha hv (show b<t.size by omega);have hsb:=(iB g1).2 hb4
 have hacc:∀ k∈(t.kid 0 b).starts (b+1),bH sb.2 (p.getD k dN).op=true:=λk hk=>by
  obtain⟨s',q1,q2⟩:=lw ha aa g1 hv hk
  rcases q2 with ⟨_,q,_⟩|⟨q,_⟩
  ·subst q;exact q1.1.1
  all_goals grind
 have h70:sb.2=70:=xk ae
 rcases g2 with ⟨_,g⟩|⟨f,slf,hfb,hcf,hbf,hnf,g⟩
 ·grind
 rcases g with ⟨_,g,_⟩|⟨_,g3,g4⟩
 ·grind
 ·obtain⟨x,hx,e⟩:=eS g4
  have hx70:x=70:=by
   rw[e] at h70;have h70:(x.toNat:Int)=70:=h70;have:=Z39 (a:=x) (b:=70)
   grind
  have hq:=yw (kids:=(p.getD f dN).kids) g3 x hx;subst hx70;unfold IU at hq;simp at hq;refine⟨f,b,hfb,hbi,by rw[hcb];rfl,by rw[hcf];rfl,hb4,hq,hib,hbf,λk hk=>nE ae⟩
def sm (c:Int):Bool:=decide (c=83\/c=101\/c=116)
def xd (op:Int):Bool:=decide (op=5\/op=6\/op=7\/30<=op/\op<=42\/60<=op/\op<=88)
theorem xm (h:bH c op=true) (hop:xd op=true):sm c=true:=by
 unfold xd at hop;rw[decide_eq_true_eq] at hop;unfold sm;rw[decide_eq_true_eq];unfold bH at h;split at h
 all_goals grind [cJ,dy]
theorem Aj (h:Ak op 83=true):op=14\/op=31\/op=32:=by
 unfold Ak at h;simp at h;exact h
theorem A8 (ha:t.At p 0) (hv:t.V (List.replicate t.cnt (false,68))):∀ (i:Nat),i<t.size->xd (p.getD i dN).op=true->∃ M:Nat,M<i/\(aF t i).me=(M:Int)/\(p.getD M dN).op=14/\i<M+1+(t.kid 0 M).size:=by
 intro i
 induction i using Nat.strongRecOn with
 |ind i ih=>
  intro hi hb
  have h4: ¬(p.getD i dN).op=4:=by intro e;rw[e] at hb;revert hb;decide
  obtain⟨sl,h1,h2⟩:=ii ha hv hi
  have hs1:sl.1=false:=by
   cases e:sl.1
   ·rfl
   ·exact absurd ((iB h1).1 e) h4
  obtain⟨sb,sc⟩:=sl;simp only at hs1;subst hs1;have hbk:sm sc=true:=xm h1.1.1 hb;have hbk':=hbk;unfold sm at hbk';rw[decide_eq_true_eq] at hbk'
  rcases h2 with ⟨_,hsl⟩|⟨m,slm,hmi,hc,him,hnm,h⟩
  ·simp only[Z0j,true_and] at hsl;omega
  have hri:=bC him
  have hme:(p.getD m dN).op≠14->(aF t i).me=(aF t m).me:=λhne=>by grind [bq]
  rcases h with ⟨_,hsl,hm4⟩|⟨_,hacc,hsl⟩
  ·obtain⟨slm',g1,g2⟩:=ii ha hv (show m<t.size by omega)
   have hsm:=(iB g1).2 hm4
   have hbm:sm slm'.2=true:=by
    obtain⟨s',q1,q2⟩:=lw ha aa g1 hv him
    rcases q2 with ⟨_,q,_⟩|⟨q,_⟩
    ·subst q;exact xm q1.1.1 hb
    all_goals grind
   rcases g2 with ⟨_,g⟩|⟨f,slf,hfm,hcf,hmf,hnf,g⟩
   ·grind
   have hrm:=bC hmf
   rcases g with ⟨_,g,_⟩|⟨_,g3,g4⟩
   ·grind
   obtain⟨x,hx,e⟩:=eS g4
   have hx83:x=83:=by
    rw[e] at hbm hsm;unfold sm at hbm;simp only[decide_eq_true_eq] at hbm;unfold dY at hsm;simp only[decide_eq_true_eq] at hsm;have:=Z39 (a:=x) (b:=83)
    grind
   have hq:=kW (kids:=(p.getD f dN).kids) g3 x hx;subst hx83;have hq:=Aj hq;have hmm:=hme ae;have hsub:=iH ha (show f<t.size by omega) hfm aa;by_cases hf14:(p.getD f dN).op=14
   ·refine⟨f,aa,?_,hf14,aa⟩
    rw[hmm,hcf];unfold bq;simp only;rw[if_pos hf14]
   ·obtain⟨M,k1,k2,k3,k4⟩:=ih f aa aa (by grind [xd])
    have hsub2:=iH ha (show M<t.size by omega) k1 k4;refine⟨M,aa,?_,k3,aa⟩;rw[hmm,hcf,<-k2];unfold bq;simp only;rw[if_neg hf14]
  ·obtain⟨x,hx,e⟩:=eS hsl
   simp only[Z0j] at e;have hq:=kW (kids:=(p.getD m dN).kids) hacc x hx
   have hne: ¬sc=83:=by
    intro e83;rw[<-e.2,e83] at e;exact absurd e.1 ac
   have hxx:x=101\/x=116:=by
    rcases hbk' with h|h|h
    ·grind
    ·left;exact (Z39 (a:=x) (b:=101)).1 ae
    ·right;exact (Z39 (a:=x) (b:=116)).1 ae
   have hop:(p.getD m dN).op=5\/30<=(p.getD m dN).op/\(p.getD m dN).op<=42\/60<=(p.getD m dN).op/\(p.getD m dN).op<=88:=by
    grind [Ak]
   obtain⟨M,k1,k2,k3,k4⟩:=ih m aa aa (by grind [xd]);have hsub2:=iH ha (show M<t.size by omega) k1 k4
   grind
end
end
abbrev Li (g:Nat) (l:List Int):Option Bl:=fq 3 (g+1) 1 (l.map λz=> .int .i64 z)
abbrev JJ (O:List Ro) (nt nl:Nat) (nx nh:Int) (l:List Int):Hp:=[(0,some (qV O.length nt nl nx nh)),(1,some (CF O)),(7,Li 7 l)]
theorem IY {O:List Ro} {nt nl:Nat} {nx nh:Int} {l:List Int}:fg 9 (JJ O nt nl nx nh l)=true:=by
 unfold JJ Li;generalize List.map (λz=>S.int IntKind.i64 z) l=cg
 cases cg<;>rfl
theorem J2 (O:List Ro) (nt nl:Nat) (nx nh:Int) (hO:O.length<=100000):FQ 15 [.s (.ptr (some (0,0)))] 7 (uN O nt nl nx nh) (.s (.row 7 8 O.length)) 9 (JJ O nt nl nx nh (O.map (·.1))):=by
 have hsz:(Tryz.prog.types[88]).size=6:=aK;have hs1:(Tryz.prog.types[3]).size=1:=aK;have hb1:(Tryz.prog.types[3]).bytes=8:=aK;refine wW Tryz.func15 ?_
 repeat'(first|refine yA ?_|refine y2 ?_ ?_|exact y5|fail)
 refine gH 3 (.s (.row 7 8 0)) (VLe.s SLe.nilrow) rfl (Ex.upN (n':=9) ac ?_);refine cy (σ:=Nat) (λj=>[(3,.s (.row 7 8 j)),(4,nI j)]) (λj=>JJ O nt nl nx nh ((O.take j).map (·.1))) (λj=>j<=O.length) (λj=>O.length-j) 0 rfl (λ_=>rfl) (Z08 _) aP ⟨rfl,rfl,trivial⟩ ?_;rintro j hj;by_cases h:j<O.length
 ·have h':=h
  have hi:(O.flatMap nP)[j*6+0]? =some (.int .i64 (O.getD j dO).1):=mN h rfl
  repeat'(first|refine y1 ?_|refine y2 ?_ ?_|refine y4 λh=>?_|refine gG [.val (nI (O.getD j dO).1)] rfl rfl (by rw[hsz,ak,ak,ao,Z0c];exact cD rfl hi) rfl ?_|refine gZ (i:=7) (g:=8) (m:=j) (w:=1) (cs:=((O.take j).map (·.1)).map λz=> .int .i64 z) (foot:=[9]) (k:=1) (add:=[.int .i64 (O.getD j dO).1]) rfl rfl (by simp;omega) rfl rfl rfl rfl rfl rfl rfl hs1 ac rfl ⟨Z02 _,rfl⟩ ac aq rfl (by rw[hb1];omega) aa rfl ?_|refine y3 ?_|exact y5|fail)
  have hT:(O.take (j+1)).map (·.1)=(O.take j).map (·.1)++[(O.getD j dO).1]:=by
   rw[<-List.take_append_getElem h',Z0d,Z00,Z01 h'];rfl
  refine fX (j+1) (by show j+1<=O.length;omega) (by show O.length-(j+1)<O.length-j;omega) [0,1,2,3,4,5,6,10,11] rfl ?_ ?_ ?_
  ·repeat'(first|exact ah _|exact dd _|exact Z0o|refine⟨?_,?_⟩)
  ·refine⟨rfl,rfl,bh ?_ trivial⟩
   rw[hT,Z0d];rfl
  ·unfold JJ Li
   generalize List.map (λz=>S.int IntKind.i64 z) _=cg
   cases cg<;>rfl
 ·obtain rfl:j=O.length:=aa
  rw[Z1v]
  repeat'(first|refine yA ?_|refine y2 ?_ ?_|refine y4 λh=>?_|exact y5|fail)
  exact⟨.inl rfl,.s (.row 7 8 O.length),[7,8],ah _,fY rfl ⟨rfl,rfl,bh rfl trivial⟩ rfl IY rfl rfl⟩
def FE (z:Int):List Ro->List Int
 |[]=>[]
 |r::t=>if r.2.par=z then r.1::FE z t else FE z t
theorem Mx (O:List Ro) (nt nl:Nat) (nx nh:Int) (z:Int) (R:List Int) (hR:(if (fu z O).isSome then FE z O else [])=R) (hO:O.length<=100000) (h0:0<O.length):FQ 77 [.s (.ptr (some (0,0))),nI z] 7 (uN O nt nl nx nh) (.s (.row 7 8 R.length)) 9 (JJ O nt nl nx nh R):=by
 have hsz:(Tryz.prog.types[88]).size=6:=aK;have hs1:(Tryz.prog.types[3]).size=1:=aK;have hb1:(Tryz.prog.types[3]).bytes=8:=aK;have hob:=lK O nt nl nx nh z _ rfl hO h0;refine wW Tryz.func77 ?_;generalize fu z O=r at*
 cases r with
 |none=>
  simp only[Z2b,Z0l,if_false] at hR;subst hR
  repeat'(first|refine yA ?_|refine y2 ?_ ?_|refine wX (bD [0,1,2,3,4,5,6] hob ?_)|exact y5|fail)
  exact⟨.inl rfl,.s (.slc none 0 (some 0)),[8,9],VLe.s SLe.nilrow,fY rfl ⟨rfl,rfl,trivial⟩ rfl rfl rfl rfl⟩
 |some x=>
  simp only[Option.isSome_some,if_true] at hR
  repeat'(first|refine yA ?_|refine y2 ?_ ?_|refine wX (bD [0,1,2,3,4,5,6] hob ?_)|exact y5|fail)
  refine gH 5 (.s (.row 8 9 0)) (VLe.s SLe.nilrow) rfl (Ex.upN (n':=10) ac ?_);refine cy (σ:=Nat×List Int) (λq=>[(5,.s (.row 8 9 q.2.length)),(8,nI q.1)]) (λq=>[(0,some (qV O.length nt nl nx nh)),(1,some (CF O)),(8,Li 8 q.2)]) (λq=>q.1<=O.length/\q.2.length<=q.1/\q.2++FE z (O.drop q.1)=R) (λq=>O.length-q.1) (0,[]) rfl (λ_=>rfl) ⟨Z08 _,Z08 _,hR⟩ aP ⟨rfl,rfl,trivial⟩ ?_;clear hR;rintro⟨j,D⟩ ⟨hj,hD,hI⟩;simp only at hj hD hI |-;by_cases h:j<O.length
  ·rw[th h,FE] at hI
   have hi:(O.flatMap nP)[j*6+0]? =some (.int .i64 (O.getD j dO).1):=mN h rfl;have hp:(O.flatMap nP)[j*6+3]? =some (.int .i64 (O.getD j dO).2.par):=mN h rfl;generalize O.getD j dO=u at*;by_cases ho:u.2.par=z
   ·rw[if_pos ho] at hI
    repeat'(first|refine y1 ?_|refine y2 ?_ ?_|refine y4 λh=>?_|refine gG [.val (nI u.2.par)] rfl rfl (by rw[hsz,ak,ak,ak,ao,Z0c];exact cD rfl hp) rfl ?_|refine gG [.val (nI u.1)] rfl rfl (by rw[hsz,ak,ak,ao,Z0c];exact cD rfl hi) rfl ?_|refine gZ (i:=8) (g:=9) (m:=D.length) (w:=1) (cs:=D.map λz=> .int .i64 z) (foot:=[10]) (k:=1) (add:=[.int .i64 u.1]) rfl rfl aq rfl rfl rfl rfl rfl rfl rfl hs1 ac rfl ⟨Z02 _,rfl⟩ ac aq rfl (by rw[hb1];omega) aa rfl ?_|refine y3 ?_|exact y5|fail)
    refine fX (j+1,D++[u.1]) ⟨by show j+1<=O.length;omega,by simp;omega,by simpa using hI⟩ (by show O.length-(j+1)<O.length-j;omega) [0,1,2,3,4,5,6,7,11,12] rfl ?_ ?_ ?_
    ·repeat'(first|exact ah _|exact dd _|exact Z0o|(refine bB (congrArg V.s (?_:S.row 11 12 _=S.row 11 12 _));simp;done)|refine⟨?_,?_⟩)
    ·refine⟨rfl,rfl,bh ?_ trivial⟩
     rw[Z0d];rfl
    ·unfold Li
     generalize List.map (λz=>S.int IntKind.i64 z) _=cg
     cases cg<;>rfl
   ·rw[if_neg ho] at hI
    repeat'(first|refine y1 ?_|refine y2 ?_ ?_|refine y4 λh=>?_|refine gG [.val (nI u.2.par)] rfl rfl (by rw[hsz,ak,ak,ak,ao,Z0c];exact cD rfl hp) rfl ?_|refine y3 ?_|exact y5|fail)
    refine fX (j+1,D) ⟨by show j+1<=O.length;omega,by show D.length<=j+1;omega,hI⟩ (by show O.length-(j+1)<O.length-j;omega) [0,1,2,3,4,5,6,7,8,9] rfl ?_ ?_ ?_
    ·repeat'(first|exact ah _|exact dd _|exact Z0o|refine⟨?_,?_⟩)
    ·exact⟨rfl,rfl,bh rfl trivial⟩
    ·unfold Li
     generalize List.map (λz=>S.int IntKind.i64 z) _=cg
     cases cg<;>rfl
  ·rw[Z10 aa,FE,Z0u] at hI
   subst hI
   repeat'(first|refine yA ?_|refine y2 ?_ ?_|refine y4 λh=>?_|exact y5|fail)
   exact⟨.inl rfl,.s (.row 7 8 D.length),[8,9],ah _,fY rfl ⟨rfl,rfl,bh rfl trivial⟩ rfl IY rfl rfl⟩
