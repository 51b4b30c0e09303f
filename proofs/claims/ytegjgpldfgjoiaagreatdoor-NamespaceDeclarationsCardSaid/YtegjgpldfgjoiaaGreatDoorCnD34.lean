import Derived.Test.YtegjgpldfgjoiaaGreatDoorCnD31
import Derived.Test.YtegjgpldfgjoiaaGreatDoorCnD33
set_option linter.all false
set_option maxHeartbeats 40000000
set_option maxRecDepth 100000
namespace Go.Proofs.YtegjgpldfgjoiaaGreatDoor
open Go Ab
def CZ (sp ba ln:Int):Bool:=if ln<1\/1048576<ln then false else if sp=0\/sp=1 then true else if sp=3 then decide (ba<=256/\ba+ln<=256) else false
theorem Fh (sp ba ln:Int) (h0:0<=ba) (h1:ba<=9223372036854775808) (h2:0<=ln) (h3:ln<=1099511627776):FQ 188 [.agg [.int .i64 sp,.int .u64 ba,.int .u64 ln]] 0 [] (bV (CZ sp ba ln)) 0 []:=by
 refine wW Tryz.func188 ?_;unfold CZ
 repeat'(first|refine y1 ?_|refine y2 ?_ ?_|refine y4 λh=>?_|refine cJ (.inl rfl) rfl ?_|refine y3 ?_|exact y5|fail)
 all_goals (repeat (first|rw[if_pos aa]|rw[if_neg aa]))<;>first
  |rfl
  |(symm;apply decide_eq_true;omega)
  |(symm;apply decide_eq_false;omega)
theorem CA {a b:Int} (h0:0<=a) (h1:a<18446744073709551616) (hb:0<=b):IntKind.u64.wrap (a.tdiv b)=a.tdiv b:=by
 have:=Z5r h0 hb;have:=Z5l b h0;exact al aa aa
def yN (sp ba ln bit len wid upd:Int):Bool:=
 if CZ sp ba ln=false then false
 else if ¬(wid=1\/wid=2\/wid=4\/wid=8) then false
 else if (sp=3/\wid≠1)\/ba.tmod wid≠0 then false
 else if upd<0\/2<upd\/bit<0\/len<1\/256<len then false
 else decide ((bit+len-1).tdiv (8*wid)<ln.tdiv wid)
theorem vD (sp ba ln bit len wid upd idx dat:Int) (h0:0<=ba) (h1:ba<=9223372036854775808) (h2:0<=ln) (h3:ln<=1099511627776) (h4:bit<=1099511627776):
 FQ 129 [.agg [.int .i64 sp,.int .u64 ba,.int .u64 ln,.int .i64 bit,.int .i64 len,.int .i64 wid,.int .i64 upd,.int .i64 idx,.int .i64 dat]] 0 [] (bV (yN sp ba ln bit len wid upd)) 0 []:=by
 have hr:=Fh sp ba ln h0 h1 h2 h3
 have hu:∀ w:Int,wid=w->(w=1\/w=2\/w=4\/w=8)->FQ 189 [.agg [.int .i64 sp,.int .u64 ba,.int .u64 ln,.int .i64 bit,.int .i64 len,.int .i64 w,.int .i64 upd,.int .i64 idx,.int .i64 dat]] 0 [] (.s (.int .u64 (8*w))) 0 []:=by
  rintro w rfl hw;refine wW Tryz.func189 ?_
  repeat'(first|refine y1 ?_|refine y2 ?_ ?_|exact al aa aa|refine g_ (.inl rfl) rfl ?_ rfl|refine y3 ?_|exact y5|fail)
 unfold yN;refine wW Tryz.func129 ?_
 cases hb:CZ sp ba ln<;>rw[hb] at hr
 ·
  repeat'(first|refine y1 ?_|refine y2 ?_ ?_|refine bt hr ?_|refine cJ (.inl rfl) rfl ?_|refine y3 ?_|exact y5|fail)
 rw[if_neg av];by_cases hw:wid=1\/wid=2\/wid=4\/wid=8
 ·rw[if_neg (λh=>h hw)]
  have hu:=hu wid rfl hw
  repeat'(first|refine y1 ?_|refine y2 ?_ ?_|refine y4 λh=>?_|refine bt hr ?_|refine an hu ?_|exact CA aa aa aa|refine cJ (.inl rfl) rfl ?_|refine y3 ?_|exact y5|fail)
  all_goals (repeat (first|rw[if_pos aa]|rw[if_neg aa]))<;>first
   |rfl
   |(symm;apply decide_eq_true;assumption)
   |(symm;apply decide_eq_false;assumption)
 ·rw[if_pos hw]
  repeat'(first|refine y1 ?_|refine y2 ?_ ?_|refine y4 λh=>?_|refine bt hr ?_|refine cJ (.inl rfl) rfl ?_|refine y3 ?_|exact y5|fail)
section
variable {P:Program} {b:Nat} {ops:Array Oper} {d:Bool} {acc:List Row} {os:List Oper} {env:List V} {n:Nat} {L:Hp} {R:Post}
variable {dst:Option Tmp} {x ix yv:Operand} {tx kt et:TypeId} {t:TypeId} {pos:String} {af:Array Edge} {gd:Option (Nat×Bool)} {i:Nat}
theorem RegX.oLkE {E:List Ent} {z:Int} {r0:Bool} (j:Nat) (X:Ent) (hX:E.getD j eZ=X) (hx:ev env x=.s (.map (some i))) (hix:ev env ix=.s (.int .i64 z)) (hz:z=j) (hj:j<E.length) (hl:lk L i=some {oB E with ro:=r0}) (hty:P.underlying tx=some (.map kt et)) (hd:P.underlying kt=some (.int .i64)) (h0:jg P et true=some (fL eZ))
 (hwt:bg ops env ⟨dst,.lookup tx x ix false,t,pos,af,gd⟩=some true)
 (kk:RegX P ops d (aB d ⟨dst,.lookup tx x ix false,t,pos,af,gd⟩ [i] [] acc) os (a_ env dst (.agg (fL X))) n L R):
 RegX P ops d acc (⟨dst,.lookup tx x ix false,t,pos,af,gd⟩::os) env n L R:=by
 subst hX;exact RegX.oLk j hx hix hz hj hl hty hd h0 hwt kk
end
def tZ:Tb:=⟨[],[]⟩
structure RegAt (T:List Tb) (x:Ent) (sp ba ln:Int):Prop where
 at_:∃ (j nd:Nat),x.tab=1+(j:Int)/\j<T.length/\x.node=nd/\(nd+4<(T.getD j tZ).p.length/\nd<=4096)/\sp=((T.getD j tZ).p.getD (nd+2) dN).int/\ba=((T.getD j tZ).p.getD (nd+3) dN).int/\ln=((T.getD j tZ).p.getD (nd+4) dN).int
 s0:0<=sp
 s1:sp<=1000
 b0:0<=ba
 b1:ba<=9223372036854775808
 l0:0<=ln
 l1:ln<=1048576
theorem rV (nt num:Int) (p:List Nd) (Eo:List Nat) (x y:Value) (E:List Ent) (T:List Tb) (k:Nat) (hk:k<E.length) (sp ba ln:Int) (hr:RegAt T (E.getD k eZ) sp ba ln):
 FQ 128 [.s (.ptr (some (0,0))),nI k] 6 [(0,some (fm (E.length:Nat) nt num p Eo (.cst x) (.cst y))),(1,some (oB E)),(3,some (tB T))] (.agg [.int .i64 sp,.int .u64 ba,.int .u64 ln]) 6 [(0,some (fm (E.length:Nat) nt num p Eo (.cst x) (.cst y))),(1,some (oB E)),(3,some (tB T))]:=by
 obtain⟨⟨j,nd,e1,e2,e3,⟨e4,e4'⟩,e5,e6,e7⟩,s0,s1,b0,b1,l0,l1⟩:=hr;have wv:IntKind.i64.wrap ((T.getD j tZ).p.getD (nd+2) dN).int=((T.getD j tZ).p.getD (nd+2) dN).int:=aj aa aa;subst e5;subst e6;subst e7;refine wW Tryz.func128 ?_;generalize hx:E.getD k eZ=X at*;obtain⟨a1,a2,a3,a4,a5,c1,c2,c3,c4,c5,c6,c7,c8,c9⟩:=X;simp only at e1 e3;subst e1;subst e3
 repeat'(first|refine y1 ?_|refine y2 ?_ ?_|refine RegX.oLkE k _ hx rfl rfl rfl hk rfl rfl rfl rfl rfl ?_|refine RegX.tLk j rfl rfl rfl e2 rfl rfl rfl rfl rfl ?_|exact wv|refine y3 ?_|exact y5|fail)
 all_goals first
  |(show IntKind.i64.wrap ((nd:Int)+2)=(nd:Int)+2;exact aj aa aa)
  |(show IntKind.i64.wrap ((nd:Int)+3)=(nd:Int)+3;exact aj aa aa)
  |(show IntKind.i64.wrap ((nd:Int)+4)=(nd:Int)+4;exact aj aa aa)
  |(show nd+2<(T.getD j tZ).p.length;omega)
  |(show nd+3<(T.getD j tZ).p.length;omega)
  |(show nd+4<(T.getD j tZ).p.length;omega)
  |exact bD
section
variable {E:List Ent} {p:List Nd} {j:Nat}
def yz (x:Ent) (sp ba ln idx dat:Int):Ent:={x with sp:=sp,ba:=ba,ln:=ln,idx:=idx,dat:=dat}
def h_ (sp ba ln idx dat:Int):List Int->List Ent->List Ent×Int
 |[],E=>(E,0)
 |u::us,E=>
  if yN sp ba ln (E.getD u.toNat eZ).bit (E.getD u.toNat eZ).len (E.getD u.toNat eZ).wid (E.getD u.toNat eZ).upd=true
  then h_ sp ba ln idx dat us (E.set u.toNat (yz (E.getD u.toNat eZ) sp ba ln idx dat))
  else (E,1)
def dJ (T:List Tb) (x:Ent) (o:Nat):Int:=((T.getD (x.tab-1).toNat tZ).p.getD (x.node.toNat+o) dN).int
def oI (r:Option Nat):List Int:=r.toList.map λ(n:Nat)=>(n:Int)
def jn (p:List Nd) (T:List Tb) (d:Fd) (i:Nat) (E:List Ent) (rs:List Int):List Ent×List Int×Int:=
 if (p.getD i dN).op=16 then
  match iD p E d.scope (i+1) 15 with
  |none=>(E,rs,6)
  |some k=>((h_ (dJ T (E.getD k eZ) 2) (dJ T (E.getD k eZ) 3) (dJ T (E.getD k eZ) 4) (-1) (-1) d.units E).1,rs++[(k:Int)],(h_ (dJ T (E.getD k eZ) 2) (dJ T (E.getD k eZ) 3) (dJ T (E.getD k eZ) 4) (-1) (-1) d.units E).2)
 else
  match iD p E d.scope (i+1) 18,iD p E d.scope (i+2) 18 with
  |some a,some c=>((h_ 0 0 ((d.bits+8*ai p (i+3)-1).tdiv (8*ai p (i+3))*ai p (i+3)) a c d.units E).1,rs++[(a:Int)]++[(c:Int)],(h_ 0 0 ((d.bits+8*ai p (i+3)-1).tdiv (8*ai p (i+3))*ai p (i+3)) a c d.units E).2)
  |a,c=>(E,rs++oI a++oI c,6)
abbrev hL (nt num:Int) (p:List Nd) (Eo:List Nat) (fc:S) (T:List Tb) (E:List Ent) (rs:List Int):Hp:=[(0,some (fm (E.length:Nat) nt num p Eo fc (.row 4 5 rs.length))),(1,some (oB E)),(2,some (pB E)),(3,some (tB T)),(4,gQ 4 rs)]
abbrev HS (nt num:Int) (p:List Nd) (Eo:List Nat) (fc:S) (T:List Tb) (E:List Ent) (rs:List Int):Hp:=[(0,some (fm (E.length:Nat) nt num p Eo fc (.row 6 7 rs.length))),(1,some (oB E)),(2,some (pB E)),(3,some (tB T)),(4,none),(6,gQ 6 rs)]
theorem FL {nt num:Int} {Eo:List Nat} {T:List Tb} {rs:List Int} {x:Value}:e_ 8 (HS nt num p Eo (.cst x) T E rs)=true:=by
 unfold HS gQ;generalize List.map _ rs=cg
 cases cg<;>rfl
theorem ip {nt num:Int} {Eo:List Nat} {rs:List Int} {x:Value}:e_ 6 (rL nt num p Eo (.cst x) E rs)=true:=by
 unfold rL gQ;generalize List.map _ rs=cg
 cases cg<;>rfl
section
variable {P:Program} {fn:Func} {env:List V} {nt num:Int} {p:List Nd} {Eo:List Nat} {T:List Tb} {E:List Ent} {z z':Int} {e:Exit} {M:Hp} {m:Nat} {rs rs':List Int} {x:Value}
theorem Fin.sd (c:Nat) (hx:e=.ret\/e=.normal) (h0:lk M 0=some (fm (E.length:Nat) nt num p Eo (.cst x) (.row c (c+1) rs.length))) (h1:lk M 1=some (oB E)) (h2:lk M 2=some (pB E)) (h3:lk M 3=some (tB T)) (h4:lk M c=gQ c rs)
 (hr:gU P fn env M=some (.s (.int .i64 z'))) (hn:bZ (List.range 6++[c,c+1])=true) (hz:z'=z) (hf:rs=rs'):Fin P fn 6 (.s (.int .i64 z)) 8 (HS nt num p Eo (.cst x) T E rs') e env m M:=by
 subst hz;subst hf;exact⟨hx,_,[c,c+1],ah _,hY hr ⟨h0,h1,h2,h3,bN h4 trivial⟩ rfl FL rfl hn⟩
end
theorem nK (a:Int) (s:By) (u:List Int) (b:Int):kM ⟨a,s,u,b⟩=[.int .i64 a,.str s,Dv u,.int .i64 b]:=rfl
theorem lj {s:By} {i:Nat} {op:Int} {k:Nat} (h:iD p E s i op=some k):k<E.length/\(E.getD k eZ).op=op:=by
 unfold iD at h
 cases h1:fX E s (p.getD i dN).str with
 |none=>grind
 |some j=>
  rw[h1] at h;simp only at h;split at h
  ·cases h;exact⟨sq h1,‹_›⟩
  ·cases h
theorem zD (nt num:Int) (p:List Nd) (Eo:List Nat) (x:Value) (s:S) (hs:wg s=false) (E:List Ent) (T:List Tb) (k:Nat) (hk:k<E.length) (sp ba ln:Int) (hr:RegAt T (E.getD k eZ) sp ba ln):
 FQ 128 [.s (.ptr (some (0,0))),nI k] 6 [(0,some (fm (E.length:Nat) nt num p Eo (.cst x) s)),(1,some (oB E)),(3,some (tB T))] (.agg [.int .i64 sp,.int .u64 ba,.int .u64 ln]) 6 [(0,some (fm (E.length:Nat) nt num p Eo (.cst x) s)),(1,some (oB E)),(3,some (tB T))]:=
 ⟨(rV nt num p Eo x x E T k hk sp ba ln hr).1,SC.cst (i:=0) (o:=9) (i':=0) (o':=9) (s:=s) rfl rfl rfl rfl hs rfl rfl λy hy=>(rV nt num p Eo x y E T k hk sp ba ln hr).2⟩
theorem yQ {l:List Int} (h:j<l.length):l.getD j 0∈l:=ae
theorem vF {l:List Int} (h:j<l.length):l.drop j=l.getD j 0::l.drop (j+1):=by
 rw[Z0k h,Z00,Z01 h];rfl
theorem zL (E:List Ent) (j:Nat) (a b c d e:Int):pB (E.set j (yz (E.getD j eZ) a b c d e))=pB E:=by
 unfold pB;rw[Z18,qz E 0 j _ (λx hx=>by rw[Z00,hx];rfl)]
theorem wS {a b c d e N:Int} (h:∀ k,(E.getD k eZ).bit<=N) (k:Nat):((E.set j (yz (E.getD j eZ) a b c d e)).getD k eZ).bit<=N:=by
 rw[Z00,Z1i];split
 ·split
  ·rename_i e1 _;subst e1;exact h j
  ·exact h E.length|>λ_=>by grind
 ·rw[<-Z00];exact h k
theorem xp (nt num:Int) (p:List Nd) (Eo:List Nat) (hw:mG p) (hI:re p) (x:Value) (T:List Tb) (E:List Ent) (rs:List Int) (hrs:rs.length<=50000) (d:Fd) (i:Nat) (hi:i+3<p.length) (hp:p.length<=2048) (hdn:d.node=i) (hds:d.scope.length<9223372036854775807) (hdu:∀ u∈d.units,0<=u/\u<E.length) (hul:d.units.length<=2048) (hb0:0<=d.bits) (hb1:d.bits<=20000000000)
 (hwd:(p.getD i dN).op≠16->1<=ai p (i+3)/\ai p (i+3)<=8) (hrg:∀ k,k<E.length->(E.getD k eZ).op=15->RegAt T (E.getD k eZ) (dJ T (E.getD k eZ) 2) (dJ T (E.getD k eZ) 3) (dJ T (E.getD k eZ) 4)) (hbt:∀ k,(E.getD k eZ).bit<=1099511627776) (R:List Ent×List Int×Int) (hR:jn p T d i E rs=R):
 FQ 70 [.s (.ptr (some (0,0))),.agg (kM d)] 6 (hL nt num p Eo (.cst x) T E rs) (.s (.int .i64 R.2.2)) 8 (HS nt num p Eo (.cst x) T R.1 R.2.1):=by
 obtain⟨dn,ds,du,db⟩:=d;simp only at hdn hds hdu hul hb0 hb1;subst hdn;unfold jn at hR;by_cases h16:(p.getD i dN).op=16
 ·rw[if_pos h16] at hR
  simp only at hR;have hf:=uS nt num p Eo hw x E rs aa ds hds (i+1) aa 15;rw[show ((i+1:Nat):Int)=(i:Int)+1 by omega] at hf;generalize hfn:iD p E ds (i+1) 15=r at hf hR
  cases r with
  |none=>
   simp only at hR;subst hR
   dsimp only
   rw[nK];refine wW Tryz.func70 ?_
   repeat'(first|refine yA ?_|refine y2 ?_ ?_|refine y4 λh=>?_|(refine wX ?_;refine ja [0,1,2,3,4,5] hf ?_ (wr:=[(0,some (fm (E.length:Nat) nt num p Eo (.cst x) (.row 8 9 (rs++[]).length))),(1,some (oB E)),(2,some (pB E)),(4,none),(8,gQ 8 (rs++[]))]) (k2:=ip))|exact y5|fail)
   exact Fin.sd 8 (.inl rfl) rfl rfl rfl rfl rfl rfl rfl rfl (Z0u _)
  |some k=>
   obtain⟨hk,hk15⟩:=lj hfn;have hrk:=hrg k hk hk15;have hreg:=zD nt num p Eo x (.row 4 5 (rs++[(k:Int)]).length) rfl E T k hk _ _ _ hrk;simp only at hR
   have hrl:0<=dJ T (E.getD k eZ) 4/\dJ T (E.getD k eZ) 4<=1048576:=⟨hrk.l0,hrk.l1⟩
   have hrb:0<=dJ T (E.getD k eZ) 3/\dJ T (E.getD k eZ) 3<=9223372036854775808:=⟨hrk.b0,hrk.b1⟩
   generalize dJ T (E.getD k eZ) 2=sp at*;generalize dJ T (E.getD k eZ) 3=ba at*;generalize dJ T (E.getD k eZ) 4=ln at*;generalize hU:h_ sp ba ln (-1) (-1) du E=U at hR;subst hR
   dsimp only
   rw[nK];refine wW Tryz.func70 ?_
   repeat'(first|refine yA ?_|refine y2 ?_ ?_|refine y4 λh=>?_|(refine wX ?_;refine ja [0,1,2,3,4,5] hf ?_ (wr:=[(0,some (fm (E.length:Nat) nt num p Eo (.cst x) (.row 8 9 (rs++[(k:Int)]).length))),(1,some (oB E)),(2,some (pB E)),(4,none),(8,gQ 8 (rs++[(k:Int)]))]) (k2:=ip))|refine wX (eO [0,1,2,3,8,9] hreg ?_)|exact y5|fail)
   refine cD (σ:=Nat×List Ent) (λq=>[(98,nI q.1)]) (λq=>[(0,some (fm (q.2.length:Nat) nt num p Eo (.cst x) (.row 8 9 (rs++[(k:Int)]).length))),(1,some (oB q.2)),(2,some (pB q.2)),(3,some (tB T)),(7,some {cells:=[.int .i64 sp,.int .u64 ba,.int .u64 ln],ty:=82}),(8,gQ 8 (rs++[(k:Int)]))]) (λq=>q.1<=du.length/\q.2.length=E.length/\(∀ k,(q.2.getD k eZ).bit<=1099511627776)/\h_ sp ba ln (-1) (-1) (du.drop q.1) q.2=U) (λq=>du.length-q.1) (0,E) rfl (λ_=>rfl) ⟨Z08 _,rfl,hbt,hU⟩ bc ⟨rfl,rfl,rfl,rfl,rfl,iN rfl trivial⟩ ?_;rintro⟨j,E1⟩ ⟨j1,j2,j3,j4⟩;simp only at j1 j2 j3 j4 |-;by_cases hj:j<du.length
   ·have hu:=hdu (du.getD j 0) (yQ hj)
    rw[vF hj] at j4;obtain⟨n,hn⟩:=Z2a hu.1;have hn':(du.getD j 0).toNat=n:=aa;have hv:=vD sp ba ln (E1.getD n eZ).bit (E1.getD n eZ).len (E1.getD n eZ).wid (E1.getD n eZ).upd (-1) (-1) hrb.1 hrb.2 hrl.1 aa (j3 n);rw[h_,hn'] at j4
    cases hvb:yN sp ba ln (E1.getD n eZ).bit (E1.getD n eZ).len (E1.getD n eZ).wid (E1.getD n eZ).upd with
    |false=>
     rw[hvb] at j4 hv;rw[if_neg av] at j4;subst j4
     repeat'(first|refine y1 ?_|refine y2 ?_ ?_|refine y4 λh=>?_|refine bt hv ?_|refine RegX.oLk n rfl rfl hn aa rfl rfl rfl rfl rfl ?_|refine y3 ?_|exact y5|fail)
     exact Fin.sd 8 (.inl rfl) rfl rfl rfl rfl rfl rfl rfl rfl rfl
    |true=>
     rw[hvb] at j4 hv;rw[if_pos rfl] at j4
     repeat'(first|refine y1 ?_|refine y2 ?_ ?_|refine y4 λh=>?_|refine bt hv ?_|refine RegX.oLk n rfl rfl hn aa rfl rfl rfl rfl rfl ?_|refine RegX.oUpd n (yz (E1.getD n eZ) sp ba ln (-1) (-1)) rfl rfl hn aa (ah _) rfl rfl rfl rfl ?_|refine y3 ?_|exact y5|fail)
     have hls:= @Z18 _ E1 n (yz (E1.getD n eZ) sp ba ln (-1) (-1));refine dT (j+1,E1.set n (yz (E1.getD n eZ) sp ba ln (-1) (-1))) ⟨ae,ae,wS j3,j4⟩ ae rfl bc ⟨?_,rfl,?_,rfl,rfl,iN rfl trivial⟩ rfl ?_ ac
     ·simp only[hls];rfl
     ·simp only[zL];rfl
     ·unfold gQ
      generalize List.map _ (rs++[(k:Int)])=cu
      cases cu<;>rfl
   ·have hd:du.drop j=[]:=ae
    rw[hd] at j4;simp only[h_] at j4;subst j4
    repeat'(first|refine yA ?_|refine y2 ?_ ?_|refine y4 λh=>?_|exact y5|fail)
    all_goals exact Fin.sd 8 (.inl rfl) rfl rfl rfl rfl rfl rfl rfl rfl rfl
 ·rw[if_neg h16] at hR
  obtain⟨w1,w8⟩:=hwd h16;have hf1:=uS nt num p Eo hw x E rs aa ds hds (i+1) aa 18;rw[show ((i+1:Nat):Int)=(i:Int)+1 by omega] at hf1;generalize hfn1:iD p E ds (i+1) 18=r1 at hf1 hR;have hf2:=uS nt num p Eo hw x E (rs++oI r1) (by unfold oI;cases r1<;>simp<;>omega) ds hds (i+2) aa 18;rw[show ((i+2:Nat):Int)=(i:Int)+2 by omega] at hf2;generalize hfn2:iD p E ds (i+2) 18=r2 at hf2 hR
  cases r1 with
  |none=>
   dsimp only at hR
   subst hR
   dsimp only
   rw[nK];refine wW Tryz.func70 ?_
   repeat'(first|refine yA ?_|refine y2 ?_ ?_|refine y4 λh=>?_|(refine wX ?_;refine ja [0,1,2,3,4,5] hf1 ?_ (wr:=[(0,some (fm (E.length:Nat) nt num p Eo (.cst x) (.row 8 9 (rs++[]).length))),(1,some (oB E)),(2,some (pB E)),(4,none),(8,gQ 8 (rs++[]))]) (k2:=ip))|(refine wX ?_;refine ja [0,1,2,3,8,9] hf2 ?_ (wr:=[(0,some (fm (E.length:Nat) nt num p Eo (.cst x) (.row 10 11 (rs++[]++oI r2).length))),(1,some (oB E)),(2,some (pB E)),(8,none),(10,gQ 10 (rs++[]++oI r2))]) (k2:=ip))|exact y5|fail)
   exact Fin.sd 10 (.inl rfl) rfl rfl rfl rfl rfl rfl rfl rfl rfl
  |some a=>
  cases r2 with
  |none=>
   dsimp only at hR
   subst hR
   dsimp only
   rw[nK];refine wW Tryz.func70 ?_
   repeat'(first|refine yA ?_|refine y2 ?_ ?_|refine y4 λh=>?_|(refine wX ?_;refine ja [0,1,2,3,4,5] hf1 ?_ (wr:=[(0,some (fm (E.length:Nat) nt num p Eo (.cst x) (.row 8 9 (rs++[(a:Int)]).length))),(1,some (oB E)),(2,some (pB E)),(4,none),(8,gQ 8 (rs++[(a:Int)]))]) (k2:=ip))|(refine wX ?_;refine ja [0,1,2,3,8,9] hf2 ?_ (wr:=[(0,some (fm (E.length:Nat) nt num p Eo (.cst x) (.row 10 11 (rs++[(a:Int)]++[]).length))),(1,some (oB E)),(2,some (pB E)),(8,none),(10,gQ 10 (rs++[(a:Int)]++[]))]) (k2:=ip))|exact y5|fail)
   exact Fin.sd 10 (.inl rfl) rfl rfl rfl rfl rfl rfl rfl rfl rfl
  |some c=>
   dsimp only at hR
   unfold ai at w1 w8 hR;have hd0:0<=(db+8*(p.getD (i+3) dN).int-1).tdiv (8*(p.getD (i+3) dN).int):=Z5r aa aa;have hd1:(db+8*(p.getD (i+3) dN).int-1).tdiv (8*(p.getD (i+3) dN).int)<=db+8*(p.getD (i+3) dN).int-1:=Z5l _ aa;have hl0:0<=(db+8*(p.getD (i+3) dN).int-1).tdiv (8*(p.getD (i+3) dN).int)*(p.getD (i+3) dN).int:=Z5y hd0 aa
   have hl1:(db+8*(p.getD (i+3) dN).int-1).tdiv (8*(p.getD (i+3) dN).int)*(p.getD (i+3) dN).int<=1099511627776:=by
    have:=Int.mul_le_mul hd1 w8 aa aa;omega
   have wv1:IntKind.i64.wrap (p.getD (i+3) dN).int=(p.getD (i+3) dN).int:=aj aa aa;have wv2:IntKind.i64.wrap (8*(p.getD (i+3) dN).int)=8*(p.getD (i+3) dN).int:=aj aa aa;have wv3:IntKind.i64.wrap (db+8*(p.getD (i+3) dN).int)=db+8*(p.getD (i+3) dN).int:=aj aa aa;have wv4:IntKind.i64.wrap (db+8*(p.getD (i+3) dN).int-1)=db+8*(p.getD (i+3) dN).int-1:=aj aa aa;have wv5:IntKind.i64.wrap ((db+8*(p.getD (i+3) dN).int-1).tdiv (8*(p.getD (i+3) dN).int))=(db+8*(p.getD (i+3) dN).int-1).tdiv (8*(p.getD (i+3) dN).int):=aj aa aa;have wv6:IntKind.i64.wrap ((db+8*(p.getD (i+3) dN).int-1).tdiv (8*(p.getD (i+3) dN).int)*(p.getD (i+3) dN).int)=(db+8*(p.getD (i+3) dN).int-1).tdiv (8*(p.getD (i+3) dN).int)*(p.getD (i+3) dN).int:=aj aa aa;have wv7:IntKind.u64.wrap ((db+8*(p.getD (i+3) dN).int-1).tdiv (8*(p.getD (i+3) dN).int)*(p.getD (i+3) dN).int)=(db+8*(p.getD (i+3) dN).int-1).tdiv (8*(p.getD (i+3) dN).int)*(p.getD (i+3) dN).int:=al aa aa;rw[nK];refine wW Tryz.func70 ?_
   repeat'(first|refine y1 ?_|refine y2 ?_ ?_|refine y4 λh=>?_|(refine wX ?_;refine ja [0,1,2,3,4,5] hf1 ?_ (wr:=[(0,some (fm (E.length:Nat) nt num p Eo (.cst x) (.row 8 9 (rs++[(a:Int)]).length))),(1,some (oB E)),(2,some (pB E)),(4,none),(8,gQ 8 (rs++[(a:Int)]))]) (k2:=ip))|(refine wX ?_;refine ja [0,1,2,3,8,9] hf2 ?_ (wr:=[(0,some (fm (E.length:Nat) nt num p Eo (.cst x) (.row 10 11 (rs++[(a:Int)]++[(c:Int)]).length))),(1,some (oB E)),(2,some (pB E)),(8,none),(10,gQ 10 (rs++[(a:Int)]++[(c:Int)]))]) (k2:=ip))|exact wv1|exact wv2|exact wv3|exact wv4|exact wv5|exact wv6|exact wv7|refine y3 ?_|exact y5|fail)
   generalize (db+8*(p.getD (i+3) dN).int-1).tdiv (8*(p.getD (i+3) dN).int)*(p.getD (i+3) dN).int=ln at*;generalize hU:h_ 0 0 ln a c du E=U at hR;subst hR
   dsimp only
   refine cD (σ:=Nat×List Ent) (λq=>[(98,nI q.1)]) (λq=>[(0,some (fm (q.2.length:Nat) nt num p Eo (.cst x) (.row 10 11 (rs++[(a:Int)]++[(c:Int)]).length))),(1,some (oB q.2)),(2,some (pB q.2)),(3,some (tB T)),(7,some {cells:=[.int .i64 0,.int .u64 0,.int .u64 ln],ty:=82}),(10,gQ 10 (rs++[(a:Int)]++[(c:Int)]))]) (λq=>q.1<=du.length/\q.2.length=E.length/\(∀ k,(q.2.getD k eZ).bit<=1099511627776)/\h_ 0 0 ln a c (du.drop q.1) q.2=U) (λq=>du.length-q.1) (0,E) rfl (λ_=>rfl) ⟨Z08 _,rfl,hbt,hU⟩ bc ⟨rfl,rfl,rfl,rfl,rfl,iN rfl trivial⟩ ?_;rintro⟨j,E1⟩ ⟨j1,j2,j3,j4⟩;simp only at j1 j2 j3 j4 |-;by_cases hj:j<du.length
   ·have hu:=hdu (du.getD j 0) (yQ hj)
    rw[vF hj] at j4;obtain⟨n,hn⟩:=Z2a hu.1;have hn':(du.getD j 0).toNat=n:=aa;have hv:=vD 0 0 ln (E1.getD n eZ).bit (E1.getD n eZ).len (E1.getD n eZ).wid (E1.getD n eZ).upd a c aa aa hl0 hl1 (j3 n);rw[h_,hn'] at j4
    cases hvb:yN 0 0 ln (E1.getD n eZ).bit (E1.getD n eZ).len (E1.getD n eZ).wid (E1.getD n eZ).upd with
    |false=>
     rw[hvb] at j4 hv;rw[if_neg av] at j4;subst j4
     repeat'(first|refine y1 ?_|refine y2 ?_ ?_|refine y4 λh=>?_|refine bt hv ?_|refine RegX.oLk n rfl rfl hn aa rfl rfl rfl rfl rfl ?_|refine y3 ?_|exact y5|fail)
     exact Fin.sd 10 (.inl rfl) rfl rfl rfl rfl rfl rfl rfl rfl rfl
    |true=>
     rw[hvb] at j4 hv;rw[if_pos rfl] at j4
     repeat'(first|refine y1 ?_|refine y2 ?_ ?_|refine y4 λh=>?_|refine bt hv ?_|refine RegX.oLk n rfl rfl hn aa rfl rfl rfl rfl rfl ?_|refine RegX.oUpd n (yz (E1.getD n eZ) 0 0 ln a c) rfl rfl hn aa (ah _) rfl rfl rfl rfl ?_|refine y3 ?_|exact y5|fail)
     have hls:= @Z18 _ E1 n (yz (E1.getD n eZ) 0 0 ln a c);refine dT (j+1,E1.set n (yz (E1.getD n eZ) 0 0 ln a c)) ⟨ae,ae,wS j3,j4⟩ ae rfl bc ⟨?_,rfl,?_,rfl,rfl,iN rfl trivial⟩ rfl ?_ ac
     ·simp only[hls];rfl
     ·simp only[zL];rfl
     ·unfold gQ
      generalize List.map _ (rs++[(a:Int)]++[(c:Int)])=cu
      cases cu<;>rfl
   ·have hd:du.drop j=[]:=ae
    rw[hd] at j4;simp only[h_] at j4;subst j4
    repeat'(first|refine yA ?_|refine y2 ?_ ?_|refine y4 λh=>?_|exact y5|fail)
    all_goals exact Fin.sd 10 (.inl rfl) rfl rfl rfl rfl rfl rfl rfl rfl rfl
end
section
variable {c op kids:Int} {i:Nat} {sl:Bool×Int}
theorem lb {Q:Int->UInt8->Bool} (h1:∀ op∈opsL,(ct op).2.all (Q op)=true) (h5:Q 5 101=true) (h33:Q 33 101=true) (h31:(Q 31 101&&Q 31 83)=true) (h:bn c op=true):∀ b∈(aq op kids).1,Q op b=true:=by
 have he7:∀ n:Nat,∀ b∈e7.take n,b=101:=λn b hb=>by
  have:=Z2x hb;unfold e7 at this
  grind
 unfold aq;split
 ·grind
 ·split
  ·grind
  ·split
   ·grind
   ·rename_i n5 n33 n31
    rcases mA h with h|h
    ·grind
    ·rcases h with rfl|rfl|rfl|rfl|rfl|rfl
     all_goals
      first
       |exact absurd rfl n5
       |(rw[show (ct _).2=[] by decide+kernel];intro b hb;simp at hb)
def EH (op:Int) (b:UInt8):Bool:=decide (b≠70)||decide (op=16\/op=17)
def vW (op:Int) (b:UInt8):Bool:=(decide (b≠83)||decide (op=14\/op=31\/op=32))&&(decide (b≠101/\b≠116)||decide (op=5\/30<=op/\op<=42\/60<=op/\op<=88))
theorem uE (h:bn c op=true):∀ b∈(aq op kids).1,EH op b=true:=lb (by decide+kernel) ac ac ac h
theorem jo (h:bn c op=true):∀ b∈(aq op kids).1,vW op b=true:=lb (by decide+kernel) ac ac ac h
theorem dY {ks:By} (h:sl∈dj ks):∃ b∈ks,sl=(dq (b.toNat:Int),(b.toNat:Int)):=by
 obtain⟨b,hb,e⟩:=Z1d.1 h
 grind
abbrev lY (p:List Nd) (t:Fo) (j:Nat) (sl:Bool×Int):Prop:=(Fo.cons (p.getD j dN) (t.kid 0 j) .nil).V [sl]
theorem dZ {p:List Nd}:∀ {t:Fo} {j i:Nat} {cs:List (Bool×Int)},t.At p j->t.V cs->i∈t.starts j->∃ sl∈cs,(Fo.cons (p.getD i dN) (t.kid j i) .nil).V [sl]
 | .nil,_,_,_,_,_,h=>by simp[Fo.starts] at h
 | .cons x k n,j,i,cs,ha,hv,h=>by
   simp only[Fo.starts,Z0h] at h;have hx:=At.get ha
   obtain⟨sl,cs',rfl,hv1,hv2⟩:∃ sl cs',cs=sl::cs'/\(Fo.cons x k .nil).V [sl]/\n.V cs':=by
    match cs,hv with
    |(true,c)::cs',⟨h1,h2,h3⟩=>exact⟨_,_,rfl,⟨h1,h2,trivial⟩,h3⟩
    |(false,c)::cs',⟨h1,h2,h3⟩=>exact⟨_,_,rfl,⟨h1,h2,trivial⟩,h3⟩
   unfold Fo.kid;by_cases e:i=j
   ·grind
   ·have h:=h.resolve_left e
    have:=bK h;rw[if_neg e,if_neg aa];obtain⟨s,hs,g⟩:=dZ ha.2.2.2 hv2 h
    grind
section
variable {p:List Nd} {t:Fo}
theorem jK (ha:t.At p 0) (hi:i<t.size) (hv:lY p t i sl) {cs:List (Bool×Int)} (hvt:t.V cs) {j:Nat} (hj:j∈(t.kid 0 i).starts (i+1)):
 ∃ sl',lY p t j sl'/\((sl.1=true/\sl'=(false,sl.2)/\(p.getD i dN).op=4)\/(sl.1=false/\bn sl.2 (p.getD i dN).op=true/\sl'∈dj (aq (p.getD i dN).op (p.getD i dN).kids).1)):=by
 obtain⟨_,h1,_⟩:=cn ha hvt (Z08 i) (aa:i<0+t.size);have hk:=h1.2.2.1;have hr:=bK hj;have e:=(cH ha (Z08 i) aa (aa:i<j) aa ini).1;obtain⟨b,c⟩:=sl;unfold lY;rw[e];cases b
 ·obtain⟨s,hs,g⟩:=dZ hk hv.2.1 hj
  exact⟨s,g,.inr ⟨rfl,hv.1.1,hs⟩⟩
 ·obtain⟨s,hs,g⟩:=dZ hk hv.2.1 hj
  have:=(Z3b.1 hs).2;subst this;exact⟨_,g,.inl ⟨rfl,rfl,hv.1.1⟩⟩
theorem Ib:bn c 4=false:=by
 unfold bn
 repeat'(first|rfl|split)
theorem gq (hv:lY p t i sl):sl.1=true↔(p.getD i dN).op=4:=by
 obtain⟨b,c⟩:=sl;cases b
 ·refine⟨λh=>(by cases h),λh=>?_⟩
  have:=hv.1.1;rw[h,Ib] at this;cases this
 ·exact⟨λ_=>hv.1.1,λ_=>rfl⟩
theorem fV (ha:t.At p 0) (hv:t.V (List.replicate t.cnt (false,68))) {j:Nat} (hj:j<t.size):
 ∃ sl,lY p t j sl/\((aD t j=ini/\sl=(false,68))\/∃ m slm,m<j/\aD t j=bJ (p.getD m dN) (aw (t.kid 0 m)) m (aD t m)/\j∈(t.kid 0 m).starts (m+1)/\lY p t m slm/\
   ((slm.1=true/\sl=(false,slm.2)/\(p.getD m dN).op=4)\/(slm.1=false/\bn slm.2 (p.getD m dN).op=true/\sl∈dj (aq (p.getD m dN).op (p.getD m dN).kids).1))):=by
 rcases dH ha hj with ⟨h1,h2⟩|⟨m,h2,h3,h4⟩
 ·grind [dZ]
 ·obtain⟨slm,_,hm⟩:=cn ha hv (Z08 m) (aa:m<0+t.size)
  obtain⟨sl,g1,g2⟩:=jK ha aa hm hv h4;exact⟨sl,g1,.inr ⟨m,slm,h2,(ee ha aa h4).2.2,h4,hm,g2⟩⟩
theorem tE (h:bn c 18=true):c=70:=by
 unfold bn at h
 repeat'(first|(split at h)|(first|exact absurd h ac|assumption))
theorem vm (h:bn 70 op=true):op=18\/op=19:=by
 grind [cV,bn]
theorem gv (ha:t.At p 0) {m:Nat} (hm:m<t.size) (hi:m<i) (hi2:i<m+1+(t.kid 0 m).size):i+1+(t.kid 0 i).size<=m+1+(t.kid 0 m).size:=by
 rw[(cH ha (Z08 m) aa hi hi2 ini).1];exact bC aa aa
theorem vE (ha:t.At p 0) (hv:t.V (List.replicate t.cnt (false,68))) (hi:i<t.size) (hop:(p.getD i dN).op=18):
 ∃ f b:Nat,f<b/\b<i/\(aD t i).pa=(b:Int)/\(aD t b).pa=(f:Int)/\(p.getD b dN).op=4/\((p.getD f dN).op=16\/(p.getD f dN).op=17)/\i∈(t.kid 0 b).starts (b+1)/\b∈(t.kid 0 f).starts (f+1)/\
   ∀ k∈(t.kid 0 b).starts (b+1),(p.getD k dN).op=18\/(p.getD k dN).op=19:=by
 obtain⟨sl,h1,h2⟩:=fV ha hv hi
 have hs:sl=(false,70):=by
  obtain⟨b,c⟩:=sl
  have hb:b=false:=by
   cases b
   ·rfl
   ·exact absurd ((gq h1).1 rfl) ae
  subst hb;have:=tE (by have:=h1.1.1;rwa [hop] at this);rw[this]
 subst hs
 rcases h2 with ⟨_,h⟩|⟨b,slm,hbi,hcb,hib,hnb,h⟩
 ·cases h
 have hb4:(p.getD b dN).op=4:=by
  rcases h with ⟨_,_,h⟩|⟨_,_,h⟩
  ·exact h
  ·obtain⟨x,_,e⟩:=dY h
   simp only[Z0j] at e;rw[<-e.2] at e;exact absurd e.1 ac
 obtain⟨sb,g1,g2⟩:=fV ha hv (show b<t.size by omega);have hsb:=(gq g1).2 hb4
 have hacc:∀ k∈(t.kid 0 b).starts (b+1),bn sb.2 (p.getD k dN).op=true:=λk hk=>by
  obtain⟨s',q1,q2⟩:=jK ha aa g1 hv hk
  rcases q2 with ⟨_,q,_⟩|⟨q,_⟩
  ·subst q;exact q1.1.1
  all_goals grind
 have h70:sb.2=70:=tE ae
 rcases g2 with ⟨_,g⟩|⟨f,slf,hfb,hcf,hbf,hnf,g⟩
 ·grind
 rcases g with ⟨_,g,_⟩|⟨_,g3,g4⟩
 ·grind
 ·obtain⟨x,hx,e⟩:=dY g4
  have hx70:x=70:=by
   rw[e] at h70;have h70:(x.toNat:Int)=70:=h70;have:=Z39 (a:=x) (b:=70)
   grind
  have hq:=uE (kids:=(p.getD f dN).kids) g3 x hx;subst hx70;unfold EH at hq;simp at hq;refine⟨f,b,hfb,hbi,by rw[hcb];rfl,by rw[hcf];rfl,hb4,hq,hib,hbf,λk hk=>vm ae⟩
def py (c:Int):Bool:=decide (c=83\/c=101\/c=116)
def tv (op:Int):Bool:=decide (op=5\/op=6\/op=7\/30<=op/\op<=42\/60<=op/\op<=88)
theorem tF (h:bn c op=true) (hop:tv op=true):py c=true:=by
 unfold tv at hop;rw[decide_eq_true_eq] at hop;unfold py;rw[decide_eq_true_eq];unfold bn at h;split at h
 all_goals grind [cl,cV]
theorem vV (h:vW op 83=true):op=14\/op=31\/op=32:=by
 unfold vW at h;simp at h;exact h
theorem wQ (ha:t.At p 0) (hv:t.V (List.replicate t.cnt (false,68))):∀ (i:Nat),i<t.size->tv (p.getD i dN).op=true->∃ M:Nat,M<i/\(aD t i).me=(M:Int)/\(p.getD M dN).op=14/\i<M+1+(t.kid 0 M).size:=by
 intro i
 induction i using Nat.strongRecOn with
 |ind i ih=>
  intro hi hb
  have h4: ¬(p.getD i dN).op=4:=by intro e;rw[e] at hb;revert hb;decide
  obtain⟨sl,h1,h2⟩:=fV ha hv hi
  have hs1:sl.1=false:=by
   cases e:sl.1
   ·rfl
   ·exact absurd ((gq h1).1 e) h4
  obtain⟨sb,sc⟩:=sl;simp only at hs1;subst hs1;have hbk:py sc=true:=tF h1.1.1 hb;have hbk':=hbk;unfold py at hbk';rw[decide_eq_true_eq] at hbk'
  rcases h2 with ⟨_,hsl⟩|⟨m,slm,hmi,hc,him,hnm,h⟩
  ·simp only[Z0j,true_and] at hsl;omega
  have hri:=bK him
  have hme:(p.getD m dN).op≠14->(aD t i).me=(aD t m).me:=λhne=>by grind [bJ]
  rcases h with ⟨_,hsl,hm4⟩|⟨_,hacc,hsl⟩
  ·obtain⟨slm',g1,g2⟩:=fV ha hv (show m<t.size by omega)
   have hsm:=(gq g1).2 hm4
   have hbm:py slm'.2=true:=by
    obtain⟨s',q1,q2⟩:=jK ha aa g1 hv him
    rcases q2 with ⟨_,q,_⟩|⟨q,_⟩
    ·subst q;exact tF q1.1.1 hb
    all_goals grind
   rcases g2 with ⟨_,g⟩|⟨f,slf,hfm,hcf,hmf,hnf,g⟩
   ·grind
   have hrm:=bK hmf
   rcases g with ⟨_,g,_⟩|⟨_,g3,g4⟩
   ·grind
   obtain⟨x,hx,e⟩:=dY g4
   have hx83:x=83:=by
    rw[e] at hbm hsm;unfold py at hbm;simp only[decide_eq_true_eq] at hbm;unfold dq at hsm;simp only[decide_eq_true_eq] at hsm;have:=Z39 (a:=x) (b:=83)
    grind
   have hq:=jo (kids:=(p.getD f dN).kids) g3 x hx;subst hx83;have hq:=vV hq;have hmm:=hme ae;have hsub:=gv ha (show f<t.size by omega) hfm aa;by_cases hf14:(p.getD f dN).op=14
   ·refine⟨f,aa,?_,hf14,aa⟩
    rw[hmm,hcf];unfold bJ;simp only;rw[if_pos hf14]
   ·obtain⟨M,k1,k2,k3,k4⟩:=ih f aa aa (by grind [tv])
    have hsub2:=gv ha (show M<t.size by omega) k1 k4;refine⟨M,aa,?_,k3,aa⟩;rw[hmm,hcf,<-k2];unfold bJ;simp only;rw[if_neg hf14]
  ·obtain⟨x,hx,e⟩:=dY hsl
   simp only[Z0j] at e;have hq:=jo (kids:=(p.getD m dN).kids) hacc x hx
   have hne: ¬sc=83:=by
    intro e83;rw[<-e.2,e83] at e;exact absurd e.1 ac
   have hxx:x=101\/x=116:=by
    rcases hbk' with h|h|h
    ·grind
    ·left;exact (Z39 (a:=x) (b:=101)).1 ae
    ·right;exact (Z39 (a:=x) (b:=116)).1 ae
   have hop:(p.getD m dN).op=5\/30<=(p.getD m dN).op/\(p.getD m dN).op<=42\/60<=(p.getD m dN).op/\(p.getD m dN).op<=88:=by
    grind [vW]
   obtain⟨M,k1,k2,k3,k4⟩:=ih m aa aa (by grind [tv]);have hsub2:=gv ha (show M<t.size by omega) k1 k4
   grind
end
end
