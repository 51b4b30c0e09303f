import Derived.Test.YtegjgpldfgjoiaaGreatDoorCnB19
set_option linter.unusedSimpArgs false
set_option linter.unusedVariables false
namespace Go.Proofs.YtegjgpldfgjoiaaGreatDoor
open Go Ab
set_option maxRecDepth 100000
set_option maxHeartbeats 2000000
theorem l6 (nt num:Int) (p:List Nd) (Eo:List Nat) (hp:p.length<=2048) (hw:wfN p) (hI:wfI p) (hO:∀ j,j<p.length->bU p j=false) (hNA:∀ j,j<p.length->gY p j) (hE:EOK p Eo):∀ N,DecP nt num p Eo N
 |0=>fun x k i sc E fs hN=>absurd hN (Nat.not_lt_zero _)
 |N+1=>GQ nt num p Eo hp hw hI hO hNA hE N (GZ nt num p Eo hp hE N (tC nt num p Eo hp hE N (l6 nt num p Eo hp hw hI hO hNA hE N)))
def lkC (E:List Ent):List Pth->Option Nat
 |[]=>none
 |c::t=>match ixP 0 E (aL c) with|some i=>some i|none=>lkC E t
def eS (E:List Ent) (s nm:By):Option Nat:=if (aq s).2=true/\(aq nm).2=true then lkC E (bK (aq s).1 (aq nm).1) else none
theorem yY {E:List Ent}:∀ {cs:List Pth} {k:Nat},lkC E cs=some k->k<E.length
 |[],_,h=>by cases h
 |c::t,k,h=>by
  rw[lkC] at h
  cases h1:ixP 0 E (aL c) with
  |some i=>
   rw[h1] at h;cases h;have:=(iS h1).2.1;omega
  |none=>rw[h1] at h;exact yY h
theorem qy {E:List Ent} {s nm:By} {k:Nat} (h:eS E s nm=some k):k<E.length:=by
 unfold eS at h;split at h
 ·exact yY h
 ·cases h
theorem iJ {s:By} (h:(aq s).2=true):aC (aq s).1=true:=by
 unfold aq er e8 at h |-
 repeat' split at h
 all_goals simp_all
 all_goals (rw[if_neg (by omega)];assumption)
theorem Ff (nt num:Int) (p:List Nd) (Eo:List Nat) (x y:Value) (E:List Ent) (s nm:By) (hs:s.length<9223372036854775807) (hn:nm.length<9223372036854775807):
 FC Tryz.prog 20 [.s (.ptr (some (0,0))),sV s,sV nm] 6 (lsL nt num p Eo (.cst x) (.cst y) E) (.tup [.s (.int .i64 (((eS E s nm).getD 0:Nat):Int)),.s (.bool (eS E s nm).isSome)]) 6 (lsL nt num p Eo (.cst x) (.cst y) E):=by
 have h1:=dY s hs;have h2:=dY nm hn;have hv:= @iJ s;unfold eS;generalize aq s=r1 at h1 hv |-;generalize aq nm=r2 at h2 |-;obtain⟨q1,ok1⟩:=r1;obtain⟨q2,ok2⟩:=r2;refine FC.walk (by kernel_rfl) Tryz.func20 rfl rfl ?_;cases ok1
 ·
  repeat'(first|exact y0|refine y1 ?_|refine y2 ?_ ?_|(refine y8 ?_ ?_<;>intro h<;>try(first|contradiction|exact y6))|(refine wC ?_;first|refine wF 48 (pu h1 ?_))|refine y3 ?_|refine y7 ?_ ?_|refine y4 ?_|(refine y9 ?_ ?_<;>intro h)|exact y5|fail)
  exact⟨.inl rfl,_,[],VLe.refl _,EndOK.by rfl ⟨rfl,rfl,rfl,trivial⟩ rfl rfl rfl rfl⟩
 cases ok2
 ·
  repeat'(first|exact y0|refine y1 ?_|refine y2 ?_ ?_|(refine y8 ?_ ?_<;>intro h<;>try(first|contradiction|exact y6))|(refine wC ?_;first|refine wF 48 (pu h1 ?_)|refine wF 48 (pu h2 ?_))|refine y3 ?_|refine y7 ?_ ?_|refine y4 ?_|(refine y9 ?_ ?_<;>intro h)|exact y5|fail)
  exact⟨.inl rfl,_,[],VLe.refl _,EndOK.by rfl ⟨rfl,rfl,rfl,trivial⟩ rfl rfl rfl rfl⟩
 simp only[and_self,if_true];have hcd:=tI q1 q2;have hroot:= @ip q1 q2;have hcl:=jO q1 q2;obtain⟨hu0,_,hseg,_,_,_⟩:=aS (hv rfl);simp only at hseg hu0;generalize bK q1 q2=cs at*
 repeat'(first|exact y0|refine y1 ?_|refine y2 ?_ ?_|(refine y8 ?_ ?_<;>intro h<;>try(first|contradiction|exact y6))|(refine wC ?_;first|refine wF 48 (pu h1 ?_)|refine wF 48 (pu h2 ?_)|refine wF 49 (pu hcd ?_))|refine y3 ?_|refine y7 ?_ ?_|refine y4 ?_|(refine y9 ?_ ?_<;>intro h)|exact y5|fail)
 refine Ex.inv (σ:=Nat) (fun j=>[(33,nI j)]) (fun j=>lsL nt num p Eo (.cst x) (.cst y) E) (fun j=>j<=cs.length/\lkC E (cs.drop j)=lkC E cs) (fun j=>cs.length-j) 0 rfl (fun _=>rfl) ⟨Nat.zero_le _,rfl⟩ ⟨VLe.refl _,trivial⟩ ⟨rfl,rfl,rfl,trivial⟩ ?_;rintro j ⟨j1,j2⟩;by_cases hj:j<cs.length
 ·rw[List.drop_eq_getElem_cons hj] at j2
  have hg:cs.getD j z0=cs[j]:=by simp[List.getD_eq_getElem?_getD,hj]
  have hrt:(cs.getD j z0).root=true:=by rw[hg];exact hroot _ (List.getElem_mem hj)
  have hf:=lV (cs.getD j z0) hrt;rw[<-hg,lkC] at j2
  cases hl:ixP 0 E (aL (cs.getD j z0)) with
  |none=>
   rw[hl] at j2
   repeat'(first|exact y0|refine y1 ?_|refine y2 ?_ ?_|(refine y8 ?_ ?_<;>intro h<;>try(exact y6))|(refine wC ?_;first|refine wF 50 (pu hf ?_))|refine RegX.pLk none rfl rfl rfl rfl rfl rfl hl rfl ?_|refine y3 ?_|refine y7 ?_ ?_|refine y4 ?_|(refine y9 ?_ ?_<;>intro h)|exact y5|fail)
   all_goals try first
    |omega
    |exact aa (by omega) (by omega)
   exact LoopR.same (j+1) ⟨hj,j2⟩ (by omega) rfl ⟨VLe.refl _,trivial⟩ ⟨rfl,rfl,rfl,trivial⟩ rfl rfl (by decide)
  |some k=>
   rw[hl] at j2;simp only at j2
   repeat'(first|exact y0|refine y1 ?_|refine y2 ?_ ?_|(refine y8 ?_ ?_<;>intro h<;>try(exact y6))|(refine wC ?_;first|refine wF 50 (pu hf ?_))|refine RegX.pLk (some k) rfl rfl rfl rfl rfl rfl hl rfl ?_|refine y3 ?_|refine y7 ?_ ?_|refine y4 ?_|(refine y9 ?_ ?_<;>intro h)|exact y5|fail)
   all_goals try omega
   rw[<-j2];exact⟨.inl rfl,_,[],VLe.refl _,EndOK.by rfl ⟨rfl,rfl,rfl,trivial⟩ rfl rfl rfl rfl⟩
 ·have hd:cs.drop j=[]:=by simp;omega
  rw[hd] at j2;simp only[lkC] at j2;rw[<-j2]
  repeat'(first|exact y0|refine y1 ?_|refine y2 ?_ ?_|(refine y8 ?_ ?_<;>intro h<;>try(exact y6))|refine y3 ?_|refine y7 ?_ ?_|refine y4 ?_|(refine y9 ?_ ?_<;>intro h)|exact y5|fail)
  all_goals exact⟨.inl rfl,_,[],VLe.refl _,EndOK.by rfl ⟨rfl,rfl,rfl,trivial⟩ rfl rfl rfl rfl⟩
def ec (p:List Nd) (E:List Ent) (s:By) (i:Nat) (op:Int):Option Nat:=
 match eS E s (p.getD i dN).str with
 |some k=>if (E.getD k eZ).op=op then some k else none
 |none=>none
abbrev rL (nt num:Int) (p:List Nd) (Eo:List Nat) (fc:S) (E:List Ent) (rs:List Int):Hp:=[(0,some (ldB (E.length:Nat) nt num p Eo fc (.row 4 5 rs.length))),(1,some (oB E)),(2,some (pB E)),(4,unB 4 rs)]
abbrev rL' (nt num:Int) (p:List Nd) (Eo:List Nat) (fc:S) (E:List Ent) (rs:List Int):Hp:=[(0,some (ldB (E.length:Nat) nt num p Eo fc (.row 6 7 rs.length))),(1,some (oB E)),(2,some (pB E)),(4,none),(6,unB 6 rs)]
abbrev GI (l:List Int):List S:=l.map fun z=>S.int .i64 z
theorem yu {nt num:Int} {p:List Nd} {Eo:List Nat} {E:List Ent} {rs:List Int} {x:Value}:okH 8 (rL' nt num p Eo (.cst x) E rs)=true:=by
 unfold rL' unB;generalize List.map _ rs=cg
 cases cg<;>rfl
section
variable {P:Program} {fn:Func} {env:List V} {nt num:Int} {p:List Nd} {Eo:List Nat} {E:List Ent} {z z':Int} {b b':Bool} {e:Exit} {M:Hp} {m:Nat} {rs rs':List Int} {x:Value}
theorem Fin.rd (c:Nat) (hx:e=.ret\/e=.normal) (h0:lk M 0=some (ldB (E.length:Nat) nt num p Eo (.cst x) (.row c (c+1) rs.length))) (h1:lk M 1=some (oB E)) (h2:lk M 2=some (pB E)) (h4:lk M c=unB c rs)
 (hr:eJ P fn env M=some (.tup [.s (.int .i64 z'),.s (.bool b')])) (hn:bY (List.range 6++[c,c+1])=true) (hz:z'=z) (hb:b'=b) (hf:rs=rs'):Fin P fn 6 (.tup [.s (.int .i64 z),.s (.bool b)]) 8 (rL' nt num p Eo (.cst x) E rs') e env m M:=by
 subst hz;subst hf;subst hb;exact⟨hx,_,[c,c+1],VLe.refl _,EndOK.by hr ⟨h0,h1,h2,MemP.op h4 trivial⟩ rfl yu rfl hn⟩
theorem Fin.r4 (hx:e=.ret\/e=.normal) (h0:lk M 0=some (ldB (E.length:Nat) nt num p Eo (.cst x) (.row 4 5 rs.length))) (h1:lk M 1=some (oB E)) (h2:lk M 2=some (pB E)) (h4:lk M 4=unB 4 rs)
 (hr:eJ P fn env M=some (.tup [.s (.int .i64 z'),.s (.bool b')])) (hz:z'=z) (hb:b'=b) (hf:rs=rs'):Fin P fn 6 (.tup [.s (.int .i64 z),.s (.bool b)]) 8 (rL' nt num p Eo (.cst x) E rs') e env m M:=by
 subst hz;subst hf;subst hb;refine⟨hx,_,[4,5],VLe.refl _,EndOK.move hr ⟨h0,h1,h2,MemP.op h4 trivial⟩ rfl yu rfl ?_ ?_⟩
 ·unfold rL' unB
  generalize List.map _ rs=cg
  cases cg<;>rfl
 ·unfold rL' unB
  generalize List.map _ rs=cg
  cases cg<;>rfl
end
theorem tg (nt num:Int) (p:List Nd) (Eo:List Nat) (hw:wfN p) (x:Value) (E:List Ent) (rs:List Int) (hrs:rs.length<=100000) (s:By) (hs:s.length<9223372036854775807) (i:Nat) (hi:i<p.length) (op:Int):
 FC Tryz.prog 127 [.s (.ptr (some (0,0))),sV s,nI i,nI op] 6 (rL nt num p Eo (.cst x) E rs) (.tup [.s (.int .i64 (((ec p E s i op).getD 0:Nat):Int)),.s (.bool (ec p E s i op).isSome)]) 8 (rL' nt num p Eo (.cst x) E (rs++(ec p E s i op).toList.map fun (n:Nat)=>(n:Int))):=by
 have hk:=yS (fs:=.cst x) (rs:=.row 4 5 rs.length) rfl rfl fun a b=>Ff nt num p Eo a b E s (p.getD i dN).str hs (nM hw i)
 have hlt:= @qy E s (p.getD i dN).str;unfold ec;generalize eS E s (p.getD i dN).str=r at hk hlt |-;refine FC.walk (by kernel_rfl) Tryz.func127 rfl rfl ?_
 cases r with
 |none=>
  repeat'(first|exact y0|refine y1 ?_|refine y2 ?_ ?_|(refine y8 ?_ ?_<;>intro h<;>try(exact y6))|(refine wC ?_;first|(refine wF 20 ?_;refine CallG.me [0,1,2,3,4,5] hk rfl rfl ⟨VLe.refl _,VLe.refl _,VLe.refl _,trivial⟩ ⟨⟨rfl,_,rfl,rfl,fun h=>h⟩,⟨rfl,_,rfl,rfl,fun h=>h⟩,⟨rfl,_,rfl,rfl,fun h=>h⟩,trivial⟩ rfl rfl rfl ?_))|refine y3 ?_|refine y7 ?_ ?_|refine y4 ?_|(refine y9 ?_ ?_<;>intro h)|exact y5|fail)
  exact Fin.r4 (.inl rfl) rfl rfl rfl rfl rfl rfl rfl (List.append_nil _).symm
 |some k=>
  have hk2:=hlt rfl
  have hsz1:(Tryz.prog.types[3]).size=1:=by kernel_rfl
  have hby1:(Tryz.prog.types[3]).bytes=8:=by kernel_rfl
  simp only;by_cases ho:(E.getD k eZ).op=op
  ·rw[if_pos ho]
   repeat'(first|exact y0|refine y1 ?_|refine y2 ?_ ?_|(refine y8 ?_ ?_<;>intro h<;>try(exact y6))|(refine wC ?_;first|(refine wF 20 ?_;refine CallG.me [0,1,2,3,4,5] hk rfl rfl ⟨VLe.refl _,VLe.refl _,VLe.refl _,trivial⟩ ⟨⟨rfl,_,rfl,rfl,fun h=>h⟩,⟨rfl,_,rfl,rfl,fun h=>h⟩,⟨rfl,_,rfl,rfl,fun h=>h⟩,trivial⟩ rfl rfl rfl ?_))|refine RegX.oLk k rfl rfl rfl hk2 rfl rfl rfl rfl rfl ?_|refine RegX.apr (i:=4) (g:=5) (m:=rs.length) (w:=1) (cs:=GI rs) (foot:=[6]) (k:=1) (add:=[.int .i64 (k:Int)]) rfl rfl (by simp[GI]) rfl rfl rfl rfl rfl rfl rfl hsz1 (by decide) rfl ⟨Nat.le_refl _,rfl⟩ (by decide) (by simp) rfl (by rw[hby1];omega) (by omega) rfl ?_|refine y3 ?_|refine y7 ?_ ?_|refine y4 ?_|(refine y9 ?_ ?_<;>intro h)|exact y5|fail)
   all_goals try omega
   refine Fin.rd 7 (.inl rfl) ?_ rfl rfl ?_ rfl rfl rfl rfl rfl
   ·rw[List.length_append];rfl
   ·show opB _ _ _ _=opB _ _ _ _
    rw[List.map_append];rfl
  ·rw[if_neg ho]
   repeat'(first|exact y0|refine y1 ?_|refine y2 ?_ ?_|(refine y8 ?_ ?_<;>intro h<;>try(exact y6))|(refine wC ?_;first|(refine wF 20 ?_;refine CallG.me [0,1,2,3,4,5] hk rfl rfl ⟨VLe.refl _,VLe.refl _,VLe.refl _,trivial⟩ ⟨⟨rfl,_,rfl,rfl,fun h=>h⟩,⟨rfl,_,rfl,rfl,fun h=>h⟩,⟨rfl,_,rfl,rfl,fun h=>h⟩,trivial⟩ rfl rfl rfl ?_))|refine RegX.oLk k rfl rfl rfl hk2 rfl rfl rfl rfl rfl ?_|refine y3 ?_|refine y7 ?_ ?_|refine y4 ?_|(refine y9 ?_ ?_<;>intro h)|exact y5|fail)
   all_goals try omega
   exact Fin.r4 (.inl rfl) rfl rfl rfl rfl rfl rfl rfl (List.append_nil _).symm
set_option maxRecDepth 100000
set_option maxHeartbeats 2000000
def Co (sp ba ln:Int):Bool:=if ln<1\/1048576<ln then false else if sp=0\/sp=1 then true else if sp=3 then decide (ba<=256/\ba+ln<=256) else false
theorem Ez (sp ba ln:Int) (h0:0<=ba) (h1:ba<=9223372036854775808) (h2:0<=ln) (h3:ln<=1099511627776):FC Tryz.prog 188 [.agg [.int .i64 sp,.int .u64 ba,.int .u64 ln]] 0 [] (bV (Co sp ba ln)) 0 []:=by
 refine FC.walk (by kernel_rfl) Tryz.func188 rfl rfl ?_;unfold Co
 repeat'(first|exact y0|refine y1 ?_|refine y2 ?_ ?_|(refine y8 ?_ ?_<;>intro h<;>try(exact y6))|exact ac (by omega) (by omega)|refine Fin.bool (.inl rfl) rfl ?_|refine y3 ?_|refine y7 ?_ ?_|refine y4 ?_|(refine y9 ?_ ?_<;>intro h)|exact y5|fail)
 all_goals (repeat (first|rw[if_pos (by omega)]|rw[if_neg (by omega)]))<;>first
  |rfl
  |(symm;apply decide_eq_true;omega)
  |(symm;apply decide_eq_false;omega)
theorem BS {a b:Int} (h0:0<=a) (h1:a<18446744073709551616) (hb:0<=b):IntKind.u64.wrap (a.tdiv b)=a.tdiv b:=by
 have:=Int.tdiv_nonneg h0 hb;have:=Int.tdiv_le_self b h0;exact ac (by omega) (by omega)
def xz (sp ba ln bit len wid upd:Int):Bool:=
 if Co sp ba ln=false then false
 else if ¬(wid=1\/wid=2\/wid=4\/wid=8) then false
 else if (sp=3/\wid≠1)\/ba.tmod wid≠0 then false
 else if upd<0\/2<upd\/bit<0\/len<1\/256<len then false
 else decide ((bit+len-1).tdiv (8*wid)<ln.tdiv wid)
theorem ua (sp ba ln bit len wid upd idx dat:Int) (h0:0<=ba) (h1:ba<=9223372036854775808) (h2:0<=ln) (h3:ln<=1099511627776) (h4:bit<=1099511627776):
 FC Tryz.prog 129 [.agg [.int .i64 sp,.int .u64 ba,.int .u64 ln,.int .i64 bit,.int .i64 len,.int .i64 wid,.int .i64 upd,.int .i64 idx,.int .i64 dat]] 0 [] (bV (xz sp ba ln bit len wid upd)) 0 []:=by
 have hr:=Ez sp ba ln h0 h1 h2 h3
 have hu:∀ w:Int,wid=w->(w=1\/w=2\/w=4\/w=8)->FC Tryz.prog 189 [.agg [.int .i64 sp,.int .u64 ba,.int .u64 ln,.int .i64 bit,.int .i64 len,.int .i64 w,.int .i64 upd,.int .i64 idx,.int .i64 dat]] 0 [] (.s (.int .u64 (8*w))) 0 []:=by
  rintro w rfl hw;refine FC.walk (by kernel_rfl) Tryz.func189 rfl rfl ?_
  repeat'(first|exact y0|refine y1 ?_|refine y2 ?_ ?_|(refine y8 ?_ ?_<;>intro h<;>try exact y6)|exact ac (by omega) (by omega)|refine Fin.plain (.inl rfl) rfl ?_ rfl|refine y3 ?_|refine y7 ?_ ?_|refine y4 ?_|(refine y9 ?_ ?_<;>intro h)|exact y5|fail)
  all_goals first
   |rfl
   |exact ac (by omega) (by omega)
   |omega
 unfold xz;refine FC.walk (by kernel_rfl) Tryz.func129 rfl rfl ?_
 cases hb:Co sp ba ln<;>rw[hb] at hr
 ·
  repeat'(first|exact y0|refine y1 ?_|refine y2 ?_ ?_|(refine y8 ?_ ?_<;>intro h<;>try(exact y6))|(refine wC ?_;first|refine wF 188 (bo hr ?_))|refine Fin.bool (.inl rfl) rfl ?_|refine y3 ?_|refine y7 ?_ ?_|refine y4 ?_|(refine y9 ?_ ?_<;>intro h)|exact y5|fail)
 rw[if_neg (by simp)];by_cases hw:wid=1\/wid=2\/wid=4\/wid=8
 ·rw[if_neg (fun h=>h hw)]
  have hu:=hu wid rfl hw
  repeat'(first|exact y0|refine y1 ?_|refine y2 ?_ ?_|(refine y8 ?_ ?_<;>intro h<;>try(exact y6))|(refine wC ?_;first|refine wF 188 (bo hr ?_)|refine wF 189 (pu hu ?_))|exact ac (by omega) (by omega)|exact BS (by omega) (by omega) (by omega)|refine Fin.bool (.inl rfl) rfl ?_|refine y3 ?_|refine y7 ?_ ?_|refine y4 ?_|(refine y9 ?_ ?_<;>intro h)|exact y5|fail)
  all_goals (repeat (first|rw[if_pos (by omega)]|rw[if_neg (by omega)]))<;>first
   |rfl
   |(symm;apply decide_eq_true;assumption)
   |(symm;apply decide_eq_false;assumption)
 ·rw[if_pos hw]
  repeat'(first|exact y0|refine y1 ?_|refine y2 ?_ ?_|(refine y8 ?_ ?_<;>intro h<;>try(exact y6))|(refine wC ?_;first|refine wF 188 (bo hr ?_))|refine Fin.bool (.inl rfl) rfl ?_|refine y3 ?_|refine y7 ?_ ?_|refine y4 ?_|(refine y9 ?_ ?_<;>intro h)|exact y5|fail)
set_option maxRecDepth 100000
set_option maxHeartbeats 2000000
section
variable {P:Program} {b:Nat} {ops:Array Oper} {d:Bool} {acc:List Row} {os:List Oper} {env:List V} {n:Nat} {L:Hp} {R:Post}
variable {dst:Option Tmp} {x ix yv:Operand} {tx kt et:TypeId} {t:TypeId} {pos:String} {af:Array Edge} {gd:Option (Nat×Bool)} {i:Nat}
theorem RegX.oLkE {E:List Ent} {z:Int} {r0:Bool} (j:Nat) (X:Ent) (hX:E.getD j eZ=X) (hx:ev env x=.s (.map (some i))) (hix:ev env ix=.s (.int .i64 z)) (hz:z=j) (hj:j<E.length) (hl:lk L i=some {oB E with ro:=r0}) (hty:P.underlying tx=some (.map kt et)) (hd:P.underlying kt=some (.int .i64)) (h0:fN P et true=some (cf eZ))
 (hwt:aI ops env ⟨dst,.lookup tx x ix false,t,pos,af,gd⟩=some true)
 (kk:RegX P ops d (av d ⟨dst,.lookup tx x ix false,t,pos,af,gd⟩ [i] [] acc) os (aB env dst (.agg (cf X))) n L R):
 RegX P ops d acc (⟨dst,.lookup tx x ix false,t,pos,af,gd⟩::os) env n L R:=by
 subst hX;exact RegX.oLk j hx hix hz hj hl hty hd h0 hwt kk
end
def tZ:Tb:=⟨[],[]⟩
structure RegAt (T:List Tb) (x:Ent) (sp ba ln:Int):Prop where
 at_:∃ (j nd:Nat),x.tab=1+(j:Int)/\j<T.length/\x.node=nd/\(nd+4<(T.getD j tZ).p.length/\nd<=4096)/\sp=((T.getD j tZ).p.getD (nd+2) dN).int/\ba=((T.getD j tZ).p.getD (nd+3) dN).int/\ln=((T.getD j tZ).p.getD (nd+4) dN).int
 s0:0<=sp
 s1:sp<=1000
 b0:0<=ba
 b1:ba<=9223372036854775808
 l0:0<=ln
 l1:ln<=1048576
theorem qh (nt num:Int) (p:List Nd) (Eo:List Nat) (x y:Value) (E:List Ent) (T:List Tb) (k:Nat) (hk:k<E.length) (sp ba ln:Int) (hr:RegAt T (E.getD k eZ) sp ba ln):
 FC Tryz.prog 128 [.s (.ptr (some (0,0))),nI k] 6 [(0,some (ldB (E.length:Nat) nt num p Eo (.cst x) (.cst y))),(1,some (oB E)),(3,some (tB T))] (.agg [.int .i64 sp,.int .u64 ba,.int .u64 ln]) 6 [(0,some (ldB (E.length:Nat) nt num p Eo (.cst x) (.cst y))),(1,some (oB E)),(3,some (tB T))]:=by
 obtain⟨⟨j,nd,e1,e2,e3,⟨e4,e4'⟩,e5,e6,e7⟩,s0,s1,b0,b1,l0,l1⟩:=hr;have wv:IntKind.i64.wrap ((T.getD j tZ).p.getD (nd+2) dN).int=((T.getD j tZ).p.getD (nd+2) dN).int:=aa (by omega) (by omega);subst e5;subst e6;subst e7;refine FC.walk (by kernel_rfl) Tryz.func128 rfl rfl ?_;generalize hx:E.getD k eZ=X at*;obtain⟨a1,a2,a3,a4,a5,c1,c2,c3,c4,c5,c6,c7,c8,c9⟩:=X;simp only at e1 e3;subst e1;subst e3
 repeat'(first|exact y0|refine y1 ?_|refine y2 ?_ ?_|(refine y8 ?_ ?_<;>intro h<;>try exact y6)|refine RegX.oLkE k _ hx rfl rfl rfl hk rfl rfl rfl rfl rfl ?_|refine RegX.tLk j rfl rfl rfl e2 rfl rfl rfl rfl rfl ?_|exact wv|refine y3 ?_|refine y7 ?_ ?_|refine y4 ?_|(refine y9 ?_ ?_<;>intro h)|exact y5|fail)
 all_goals first
  |exact wv
  |(show IntKind.i64.wrap ((nd:Int)+2)=(nd:Int)+2;exact aa (by omega) (by omega))
  |(show IntKind.i64.wrap ((nd:Int)+3)=(nd:Int)+3;exact aa (by omega) (by omega))
  |(show IntKind.i64.wrap ((nd:Int)+4)=(nd:Int)+4;exact aa (by omega) (by omega))
  |(show nd+2<(T.getD j tZ).p.length;omega)
  |(show nd+3<(T.getD j tZ).p.length;omega)
  |(show nd+4<(T.getD j tZ).p.length;omega)
  |exact⟨.inl rfl,_,[],VLe.refl _,EndOK.by rfl ⟨rfl,rfl,rfl,trivial⟩ rfl rfl rfl rfl⟩
set_option maxRecDepth 100000
set_option maxHeartbeats 2000000
def spR (x:Ent) (sp ba ln idx dat:Int):Ent:={x with sp:=sp,ba:=ba,ln:=ln,idx:=idx,dat:=dat}
def fO (sp ba ln idx dat:Int):List Int->List Ent->List Ent×Int
 |[],E=>(E,0)
 |u::us,E=>
  if xz sp ba ln (E.getD u.toNat eZ).bit (E.getD u.toNat eZ).len (E.getD u.toNat eZ).wid (E.getD u.toNat eZ).upd=true
  then fO sp ba ln idx dat us (E.set u.toNat (spR (E.getD u.toNat eZ) sp ba ln idx dat))
  else (E,1)
def cF (T:List Tb) (x:Ent) (o:Nat):Int:=((T.getD (x.tab-1).toNat tZ).p.getD (x.node.toNat+o) dN).int
def kp (r:Option Nat):List Int:=r.toList.map fun (n:Nat)=>(n:Int)
def eK (p:List Nd) (T:List Tb) (d:Fd) (i:Nat) (E:List Ent) (rs:List Int):List Ent×List Int×Int:=
 if (p.getD i dN).op=16 then
  match ec p E d.scope (i+1) 15 with
  |none=>(E,rs,6)
  |some k=>((fO (cF T (E.getD k eZ) 2) (cF T (E.getD k eZ) 3) (cF T (E.getD k eZ) 4) (-1) (-1) d.units E).1,rs++[(k:Int)],(fO (cF T (E.getD k eZ) 2) (cF T (E.getD k eZ) 3) (cF T (E.getD k eZ) 4) (-1) (-1) d.units E).2)
 else
  match ec p E d.scope (i+1) 18,ec p E d.scope (i+2) 18 with
  |some a,some c=>((fO 0 0 ((d.bits+8*ai p (i+3)-1).tdiv (8*ai p (i+3))*ai p (i+3)) a c d.units E).1,rs++[(a:Int)]++[(c:Int)],(fO 0 0 ((d.bits+8*ai p (i+3)-1).tdiv (8*ai p (i+3))*ai p (i+3)) a c d.units E).2)
  |a,c=>(E,rs++kp a++kp c,6)
abbrev hL (nt num:Int) (p:List Nd) (Eo:List Nat) (fc:S) (T:List Tb) (E:List Ent) (rs:List Int):Hp:=[(0,some (ldB (E.length:Nat) nt num p Eo fc (.row 4 5 rs.length))),(1,some (oB E)),(2,some (pB E)),(3,some (tB T)),(4,unB 4 rs)]
abbrev hL' (nt num:Int) (p:List Nd) (Eo:List Nat) (fc:S) (T:List Tb) (E:List Ent) (rs:List Int):Hp:=[(0,some (ldB (E.length:Nat) nt num p Eo fc (.row 6 7 rs.length))),(1,some (oB E)),(2,some (pB E)),(3,some (tB T)),(4,none),(6,unB 6 rs)]
theorem EZ {nt num:Int} {p:List Nd} {Eo:List Nat} {T:List Tb} {E:List Ent} {rs:List Int} {x:Value}:okH 8 (hL' nt num p Eo (.cst x) T E rs)=true:=by
 unfold hL' unB;generalize List.map _ rs=cg
 cases cg<;>rfl
theorem fZ {nt num:Int} {p:List Nd} {Eo:List Nat} {E:List Ent} {rs:List Int} {x:Value}:okH 6 (rL nt num p Eo (.cst x) E rs)=true:=by
 unfold rL unB;generalize List.map _ rs=cg
 cases cg<;>rfl
section
variable {P:Program} {fn:Func} {env:List V} {nt num:Int} {p:List Nd} {Eo:List Nat} {T:List Tb} {E:List Ent} {z z':Int} {e:Exit} {M:Hp} {m:Nat} {rs rs':List Int} {x:Value}
theorem Fin.sd (c:Nat) (hx:e=.ret\/e=.normal) (h0:lk M 0=some (ldB (E.length:Nat) nt num p Eo (.cst x) (.row c (c+1) rs.length))) (h1:lk M 1=some (oB E)) (h2:lk M 2=some (pB E)) (h3:lk M 3=some (tB T)) (h4:lk M c=unB c rs)
 (hr:eJ P fn env M=some (.s (.int .i64 z'))) (hn:bY (List.range 6++[c,c+1])=true) (hz:z'=z) (hf:rs=rs'):Fin P fn 6 (.s (.int .i64 z)) 8 (hL' nt num p Eo (.cst x) T E rs') e env m M:=by
 subst hz;subst hf;exact⟨hx,_,[c,c+1],VLe.refl _,EndOK.by hr ⟨h0,h1,h2,h3,MemP.op h4 trivial⟩ rfl EZ rfl hn⟩
end
theorem lY (a:Int) (s:By) (u:List Int) (b:Int):fdC ⟨a,s,u,b⟩=[.int .i64 a,.str s,Aa u,.int .i64 b]:=rfl
theorem jD {p:List Nd} {E:List Ent} {s:By} {i:Nat} {op:Int} {k:Nat} (h:ec p E s i op=some k):k<E.length/\(E.getD k eZ).op=op:=by
 unfold ec at h
 cases h1:eS E s (p.getD i dN).str with
 |none=>rw[h1] at h;cases h
 |some j=>
  rw[h1] at h;simp only at h;split at h
  ·cases h;exact⟨qy h1,‹_›⟩
  ·cases h
theorem yf (nt num:Int) (p:List Nd) (Eo:List Nat) (x:Value) (s:S) (hs:isJ s=false) (E:List Ent) (T:List Tb) (k:Nat) (hk:k<E.length) (sp ba ln:Int) (hr:RegAt T (E.getD k eZ) sp ba ln):
 FC Tryz.prog 128 [.s (.ptr (some (0,0))),nI k] 6 [(0,some (ldB (E.length:Nat) nt num p Eo (.cst x) s)),(1,some (oB E)),(3,some (tB T))] (.agg [.int .i64 sp,.int .u64 ba,.int .u64 ln]) 6 [(0,some (ldB (E.length:Nat) nt num p Eo (.cst x) s)),(1,some (oB E)),(3,some (tB T))]:=
 ⟨(qh nt num p Eo x x E T k hk sp ba ln hr).1,SC.cst (i:=0) (o:=9) (i':=0) (o':=9) (s:=s) rfl rfl rfl rfl hs rfl rfl fun y hy=>(qh nt num p Eo x y E T k hk sp ba ln hr).2⟩
theorem xD {l:List Int} {j:Nat} (h:j<l.length):l.getD j 0∈l:=by
 rw[List.getD_eq_getElem?_getD,List.getElem?_eq_getElem h];exact List.getElem_mem h
theorem ub {l:List Int} {j:Nat} (h:j<l.length):l.drop j=l.getD j 0::l.drop (j+1):=by
 rw[List.drop_eq_getElem_cons h,List.getD_eq_getElem?_getD,List.getElem?_eq_getElem h];rfl
theorem yo (E:List Ent) (j:Nat) (a b c d e:Int):pB (E.set j (spR (E.getD j eZ) a b c d e))=pB E:=by
 unfold pB;rw[List.length_set,pf E 0 j _ (fun x hx=>by rw[List.getD_eq_getElem?_getD,hx];rfl)]
theorem vu {E:List Ent} {j:Nat} {a b c d e N:Int} (h:∀ k,(E.getD k eZ).bit<=N) (k:Nat):((E.set j (spR (E.getD j eZ) a b c d e)).getD k eZ).bit<=N:=by
 rw[List.getD_eq_getElem?_getD,List.getElem?_set];split
 ·split
  ·rename_i e1 _;subst e1;exact h j
  ·exact h E.length|>fun _=>by have:=h (E.length);rw[List.getD_eq_getElem?_getD,List.getElem?_eq_none (Nat.le_refl _)] at this;exact this
 ·rw[<-List.getD_eq_getElem?_getD];exact h k
theorem vM (nt num:Int) (p:List Nd) (Eo:List Nat) (hw:wfN p) (hI:wfI p) (x:Value) (T:List Tb) (E:List Ent) (rs:List Int) (hrs:rs.length<=50000) (d:Fd) (i:Nat) (hi:i+3<p.length) (hp:p.length<=2048) (hdn:d.node=i) (hds:d.scope.length<9223372036854775807) (hdu:∀ u∈d.units,0<=u/\u<E.length) (hul:d.units.length<=2048) (hb0:0<=d.bits) (hb1:d.bits<=20000000000)
 (hwd:(p.getD i dN).op≠16->1<=ai p (i+3)/\ai p (i+3)<=8) (hrg:∀ k,k<E.length->(E.getD k eZ).op=15->RegAt T (E.getD k eZ) (cF T (E.getD k eZ) 2) (cF T (E.getD k eZ) 3) (cF T (E.getD k eZ) 4)) (hbt:∀ k,(E.getD k eZ).bit<=1099511627776) (R:List Ent×List Int×Int) (hR:eK p T d i E rs=R):
 FC Tryz.prog 70 [.s (.ptr (some (0,0))),.agg (fdC d)] 6 (hL nt num p Eo (.cst x) T E rs) (.s (.int .i64 R.2.2)) 8 (hL' nt num p Eo (.cst x) T R.1 R.2.1):=by
 obtain⟨dn,ds,du,db⟩:=d;simp only at hdn hds hdu hul hb0 hb1;subst hdn;unfold eK at hR;by_cases h16:(p.getD i dN).op=16
 ·rw[if_pos h16] at hR
  simp only at hR;have hf:=tg nt num p Eo hw x E rs (by omega) ds hds (i+1) (by omega) 15;rw[show ((i+1:Nat):Int)=(i:Int)+1 by omega] at hf;generalize hfn:ec p E ds (i+1) 15=r at hf hR
  cases r with
  |none=>
   simp only at hR;subst hR
   dsimp only
   rw[lY];refine FC.walk (by kernel_rfl) Tryz.func70 rfl rfl ?_
   repeat'(first|exact y0|refine y1 ?_|refine y2 ?_ ?_|(refine y8 ?_ ?_<;>intro h<;>try(exact y6))|(refine wC ?_;first|(refine wF 127 ?_;refine CallG.mo [0,1,2,3,4,5] hf rfl fZ rfl rfl rfl ⟨VLe.refl _,VLe.refl _,VLe.refl _,VLe.refl _,trivial⟩ ⟨⟨rfl,_,rfl,rfl,fun h=>h⟩,⟨rfl,_,rfl,rfl,fun h=>h⟩,⟨rfl,_,rfl,rfl,fun h=>h⟩,FitP.op rfl rfl trivial⟩ rfl rfl (wr:=[(0,some (ldB (E.length:Nat) nt num p Eo (.cst x) (.row 8 9 (rs++[]).length))),(1,some (oB E)),(2,some (pB E)),(4,none),(8,unB 8 (rs++[]))]) (by show [_,_,_,_,_]=_;rw[ah];rfl) ?_))|refine y3 ?_|refine y7 ?_ ?_|refine y4 ?_|(refine y9 ?_ ?_<;>intro h)|exact y5|fail)
   all_goals try first
    |omega
    |exact aa (by omega) (by omega)
   exact Fin.sd 8 (.inl rfl) rfl rfl rfl rfl rfl rfl rfl rfl (List.append_nil _)
  |some k=>
   obtain⟨hk,hk15⟩:=jD hfn;have hrk:=hrg k hk hk15;have hreg:=yf nt num p Eo x (.row 4 5 (rs++[(k:Int)]).length) rfl E T k hk _ _ _ hrk;simp only at hR
   have hrl:0<=cF T (E.getD k eZ) 4/\cF T (E.getD k eZ) 4<=1048576:=⟨hrk.l0,hrk.l1⟩
   have hrb:0<=cF T (E.getD k eZ) 3/\cF T (E.getD k eZ) 3<=9223372036854775808:=⟨hrk.b0,hrk.b1⟩
   generalize cF T (E.getD k eZ) 2=sp at*;generalize cF T (E.getD k eZ) 3=ba at*;generalize cF T (E.getD k eZ) 4=ln at*;generalize hU:fO sp ba ln (-1) (-1) du E=U at hR;subst hR
   dsimp only
   rw[lY];refine FC.walk (by kernel_rfl) Tryz.func70 rfl rfl ?_
   repeat'(first|exact y0|refine y1 ?_|refine y2 ?_ ?_|(refine y8 ?_ ?_<;>intro h<;>try(exact y6))|(refine wC ?_;first|(refine wF 127 ?_;refine CallG.mo [0,1,2,3,4,5] hf rfl fZ rfl rfl rfl ⟨VLe.refl _,VLe.refl _,VLe.refl _,VLe.refl _,trivial⟩ ⟨⟨rfl,_,rfl,rfl,fun h=>h⟩,⟨rfl,_,rfl,rfl,fun h=>h⟩,⟨rfl,_,rfl,rfl,fun h=>h⟩,FitP.op rfl rfl trivial⟩ rfl rfl (wr:=[(0,some (ldB (E.length:Nat) nt num p Eo (.cst x) (.row 8 9 (rs++[(k:Int)]).length))),(1,some (oB E)),(2,some (pB E)),(4,none),(8,unB 8 (rs++[(k:Int)]))]) (by show [_,_,_,_,_]=_;rw[ah];rfl) ?_)|(refine wF 128 ?_;refine CallG.me [0,1,2,3,8,9] hreg rfl rfl ⟨VLe.refl _,VLe.refl _,trivial⟩ ⟨⟨rfl,_,rfl,rfl,fun h=>h⟩,⟨rfl,_,rfl,rfl,fun h=>h⟩,⟨rfl,_,rfl,rfl,fun h=>h⟩,trivial⟩ rfl rfl rfl ?_))|refine y3 ?_|refine y7 ?_ ?_|refine y4 ?_|(refine y9 ?_ ?_<;>intro h)|exact y5|fail)
   all_goals try first
    |omega
    |exact aa (by omega) (by omega)
   refine Ex.inv (σ:=Nat×List Ent) (fun q=>[(98,nI q.1)]) (fun q=>[(0,some (ldB (q.2.length:Nat) nt num p Eo (.cst x) (.row 8 9 (rs++[(k:Int)]).length))),(1,some (oB q.2)),(2,some (pB q.2)),(3,some (tB T)),(7,some {cells:=[.int .i64 sp,.int .u64 ba,.int .u64 ln],ty:=82}),(8,unB 8 (rs++[(k:Int)]))]) (fun q=>q.1<=du.length/\q.2.length=E.length/\(∀ k,(q.2.getD k eZ).bit<=1099511627776)/\fO sp ba ln (-1) (-1) (du.drop q.1) q.2=U) (fun q=>du.length-q.1) (0,E) rfl (fun _=>rfl) ⟨Nat.zero_le _,rfl,hbt,hU⟩ ⟨VLe.refl _,trivial⟩ ⟨rfl,rfl,rfl,rfl,rfl,SubP.op rfl trivial⟩ ?_;rintro⟨j,E1⟩ ⟨j1,j2,j3,j4⟩;simp only at j1 j2 j3 j4 |-;by_cases hj:j<du.length
   ·have hu:=hdu (du.getD j 0) (xD hj)
    rw[ub hj] at j4;obtain⟨n,hn⟩:=Int.eq_ofNat_of_zero_le hu.1
    have hn':(du.getD j 0).toNat=n:=by omega
    have hv:=ua sp ba ln (E1.getD n eZ).bit (E1.getD n eZ).len (E1.getD n eZ).wid (E1.getD n eZ).upd (-1) (-1) hrb.1 hrb.2 hrl.1 (by omega) (j3 n);rw[fO,hn'] at j4
    cases hvb:xz sp ba ln (E1.getD n eZ).bit (E1.getD n eZ).len (E1.getD n eZ).wid (E1.getD n eZ).upd with
    |false=>
     rw[hvb] at j4 hv;rw[if_neg (by simp)] at j4;subst j4
     repeat'(first|exact y0|refine y1 ?_|refine y2 ?_ ?_|(refine y8 ?_ ?_<;>intro h<;>try(exact y6))|(refine wC ?_;first|refine wF 129 (bo hv ?_))|refine RegX.oLk n rfl rfl hn (by omega) rfl rfl rfl rfl rfl ?_|refine y3 ?_|refine y7 ?_ ?_|refine y4 ?_|(refine y9 ?_ ?_<;>intro h)|exact y5|fail)
     all_goals try first
      |omega
      |exact aa (by omega) (by omega)
     exact Fin.sd 8 (.inl rfl) rfl rfl rfl rfl rfl rfl rfl rfl rfl
    |true=>
     rw[hvb] at j4 hv;rw[if_pos rfl] at j4
     repeat'(first|exact y0|refine y1 ?_|refine y2 ?_ ?_|(refine y8 ?_ ?_<;>intro h<;>try(exact y6))|(refine wC ?_;first|refine wF 129 (bo hv ?_))|refine RegX.oLk n rfl rfl hn (by omega) rfl rfl rfl rfl rfl ?_|refine RegX.oUpd n (spR (E1.getD n eZ) sp ba ln (-1) (-1)) rfl rfl hn (by omega) (VLe.refl _) rfl rfl rfl rfl ?_|refine y3 ?_|refine y7 ?_ ?_|refine y4 ?_|(refine y9 ?_ ?_<;>intro h)|exact y5|fail)
     all_goals try first
      |omega
      |exact aa (by omega) (by omega)
     have hls:= @List.length_set _ E1 n (spR (E1.getD n eZ) sp ba ln (-1) (-1));refine LoopR.same (j+1,E1.set n (spR (E1.getD n eZ) sp ba ln (-1) (-1))) ⟨by simp only;omega,by simp only[hls];exact j2,vu j3,j4⟩ (by simp only;omega) rfl ⟨VLe.refl _,trivial⟩ ⟨?_,rfl,?_,rfl,rfl,SubP.op rfl trivial⟩ rfl ?_ (by decide)
     ·simp only[hls];rfl
     ·simp only[yo];rfl
     ·unfold unB
      generalize List.map _ (rs++[(k:Int)])=cu
      cases cu<;>rfl
   ·have hd:du.drop j=[]:=by simp;omega
    rw[hd] at j4;simp only[fO] at j4;subst j4
    repeat'(first|exact y0|refine y1 ?_|refine y2 ?_ ?_|(refine y8 ?_ ?_<;>intro h<;>try(exact y6))|refine y3 ?_|refine y7 ?_ ?_|refine y4 ?_|(refine y9 ?_ ?_<;>intro h)|exact y5|fail)
    all_goals exact Fin.sd 8 (.inl rfl) rfl rfl rfl rfl rfl rfl rfl rfl rfl
 ·rw[if_neg h16] at hR
  obtain⟨w1,w8⟩:=hwd h16;have hf1:=tg nt num p Eo hw x E rs (by omega) ds hds (i+1) (by omega) 18;rw[show ((i+1:Nat):Int)=(i:Int)+1 by omega] at hf1;generalize hfn1:ec p E ds (i+1) 18=r1 at hf1 hR;have hf2:=tg nt num p Eo hw x E (rs++kp r1) (by unfold kp;cases r1<;>simp<;>omega) ds hds (i+2) (by omega) 18;rw[show ((i+2:Nat):Int)=(i:Int)+2 by omega] at hf2;generalize hfn2:ec p E ds (i+2) 18=r2 at hf2 hR
  cases r1 with
  |none=>
   dsimp only at hR
   subst hR
   dsimp only
   rw[lY];refine FC.walk (by kernel_rfl) Tryz.func70 rfl rfl ?_
   repeat'(first|exact y0|refine y1 ?_|refine y2 ?_ ?_|(refine y8 ?_ ?_<;>intro h<;>try(exact y6))|(refine wC ?_;first|(refine wF 127 ?_;refine CallG.mo [0,1,2,3,4,5] hf1 rfl fZ rfl rfl rfl ⟨VLe.refl _,VLe.refl _,VLe.refl _,VLe.refl _,trivial⟩ ⟨⟨rfl,_,rfl,rfl,fun h=>h⟩,⟨rfl,_,rfl,rfl,fun h=>h⟩,⟨rfl,_,rfl,rfl,fun h=>h⟩,FitP.op rfl rfl trivial⟩ rfl rfl (wr:=[(0,some (ldB (E.length:Nat) nt num p Eo (.cst x) (.row 8 9 (rs++[]).length))),(1,some (oB E)),(2,some (pB E)),(4,none),(8,unB 8 (rs++[]))]) (by show [_,_,_,_,_]=_;rw[ah];rfl) ?_)|(refine wF 127 ?_;refine CallG.mo [0,1,2,3,8,9] hf2 rfl fZ rfl rfl rfl ⟨VLe.refl _,VLe.refl _,VLe.refl _,VLe.refl _,trivial⟩ ⟨⟨rfl,_,rfl,rfl,fun h=>h⟩,⟨rfl,_,rfl,rfl,fun h=>h⟩,⟨rfl,_,rfl,rfl,fun h=>h⟩,FitP.op rfl rfl trivial⟩ rfl rfl (wr:=[(0,some (ldB (E.length:Nat) nt num p Eo (.cst x) (.row 10 11 (rs++[]++kp r2).length))),(1,some (oB E)),(2,some (pB E)),(8,none),(10,unB 10 (rs++[]++kp r2))]) (by show [_,_,_,_,_]=_;rw[ah];rfl) ?_))|refine y3 ?_|refine y7 ?_ ?_|refine y4 ?_|(refine y9 ?_ ?_<;>intro h)|exact y5|fail)
   all_goals try first
    |omega
    |exact aa (by omega) (by omega)
   exact Fin.sd 10 (.inl rfl) rfl rfl rfl rfl rfl rfl rfl rfl rfl
  |some a=>
  cases r2 with
  |none=>
   dsimp only at hR
   subst hR
   dsimp only
   rw[lY];refine FC.walk (by kernel_rfl) Tryz.func70 rfl rfl ?_
   repeat'(first|exact y0|refine y1 ?_|refine y2 ?_ ?_|(refine y8 ?_ ?_<;>intro h<;>try(exact y6))|(refine wC ?_;first|(refine wF 127 ?_;refine CallG.mo [0,1,2,3,4,5] hf1 rfl fZ rfl rfl rfl ⟨VLe.refl _,VLe.refl _,VLe.refl _,VLe.refl _,trivial⟩ ⟨⟨rfl,_,rfl,rfl,fun h=>h⟩,⟨rfl,_,rfl,rfl,fun h=>h⟩,⟨rfl,_,rfl,rfl,fun h=>h⟩,FitP.op rfl rfl trivial⟩ rfl rfl (wr:=[(0,some (ldB (E.length:Nat) nt num p Eo (.cst x) (.row 8 9 (rs++[(a:Int)]).length))),(1,some (oB E)),(2,some (pB E)),(4,none),(8,unB 8 (rs++[(a:Int)]))]) (by show [_,_,_,_,_]=_;rw[ah];rfl) ?_)|(refine wF 127 ?_;refine CallG.mo [0,1,2,3,8,9] hf2 rfl fZ rfl rfl rfl ⟨VLe.refl _,VLe.refl _,VLe.refl _,VLe.refl _,trivial⟩ ⟨⟨rfl,_,rfl,rfl,fun h=>h⟩,⟨rfl,_,rfl,rfl,fun h=>h⟩,⟨rfl,_,rfl,rfl,fun h=>h⟩,FitP.op rfl rfl trivial⟩ rfl rfl (wr:=[(0,some (ldB (E.length:Nat) nt num p Eo (.cst x) (.row 10 11 (rs++[(a:Int)]++[]).length))),(1,some (oB E)),(2,some (pB E)),(8,none),(10,unB 10 (rs++[(a:Int)]++[]))]) (by show [_,_,_,_,_]=_;rw[ah];rfl) ?_))|refine y3 ?_|refine y7 ?_ ?_|refine y4 ?_|(refine y9 ?_ ?_<;>intro h)|exact y5|fail)
   all_goals try first
    |omega
    |exact aa (by omega) (by omega)
   exact Fin.sd 10 (.inl rfl) rfl rfl rfl rfl rfl rfl rfl rfl rfl
  |some c=>
   dsimp only at hR
   unfold ai at w1 w8 hR;have hd0:0<=(db+8*(p.getD (i+3) dN).int-1).tdiv (8*(p.getD (i+3) dN).int):=Int.tdiv_nonneg (by omega) (by omega);have hd1:(db+8*(p.getD (i+3) dN).int-1).tdiv (8*(p.getD (i+3) dN).int)<=db+8*(p.getD (i+3) dN).int-1:=Int.tdiv_le_self _ (by omega);have hl0:0<=(db+8*(p.getD (i+3) dN).int-1).tdiv (8*(p.getD (i+3) dN).int)*(p.getD (i+3) dN).int:=Int.mul_nonneg hd0 (by omega)
   have hl1:(db+8*(p.getD (i+3) dN).int-1).tdiv (8*(p.getD (i+3) dN).int)*(p.getD (i+3) dN).int<=1099511627776:=by
    have:=Int.mul_le_mul hd1 w8 (by omega) (by omega);omega
   have wv1:IntKind.i64.wrap (p.getD (i+3) dN).int=(p.getD (i+3) dN).int:=aa (by omega) (by omega);have wv2:IntKind.i64.wrap (8*(p.getD (i+3) dN).int)=8*(p.getD (i+3) dN).int:=aa (by omega) (by omega);have wv3:IntKind.i64.wrap (db+8*(p.getD (i+3) dN).int)=db+8*(p.getD (i+3) dN).int:=aa (by omega) (by omega);have wv4:IntKind.i64.wrap (db+8*(p.getD (i+3) dN).int-1)=db+8*(p.getD (i+3) dN).int-1:=aa (by omega) (by omega);have wv5:IntKind.i64.wrap ((db+8*(p.getD (i+3) dN).int-1).tdiv (8*(p.getD (i+3) dN).int))=(db+8*(p.getD (i+3) dN).int-1).tdiv (8*(p.getD (i+3) dN).int):=aa (by omega) (by omega);have wv6:IntKind.i64.wrap ((db+8*(p.getD (i+3) dN).int-1).tdiv (8*(p.getD (i+3) dN).int)*(p.getD (i+3) dN).int)=(db+8*(p.getD (i+3) dN).int-1).tdiv (8*(p.getD (i+3) dN).int)*(p.getD (i+3) dN).int:=aa (by omega) (by omega);have wv7:IntKind.u64.wrap ((db+8*(p.getD (i+3) dN).int-1).tdiv (8*(p.getD (i+3) dN).int)*(p.getD (i+3) dN).int)=(db+8*(p.getD (i+3) dN).int-1).tdiv (8*(p.getD (i+3) dN).int)*(p.getD (i+3) dN).int:=ac (by omega) (by omega);rw[lY];refine FC.walk (by kernel_rfl) Tryz.func70 rfl rfl ?_
   repeat'(first|exact y0|refine y1 ?_|refine y2 ?_ ?_|(refine y8 ?_ ?_<;>intro h<;>try(exact y6))|(refine wC ?_;first|(refine wF 127 ?_;refine CallG.mo [0,1,2,3,4,5] hf1 rfl fZ rfl rfl rfl ⟨VLe.refl _,VLe.refl _,VLe.refl _,VLe.refl _,trivial⟩ ⟨⟨rfl,_,rfl,rfl,fun h=>h⟩,⟨rfl,_,rfl,rfl,fun h=>h⟩,⟨rfl,_,rfl,rfl,fun h=>h⟩,FitP.op rfl rfl trivial⟩ rfl rfl (wr:=[(0,some (ldB (E.length:Nat) nt num p Eo (.cst x) (.row 8 9 (rs++[(a:Int)]).length))),(1,some (oB E)),(2,some (pB E)),(4,none),(8,unB 8 (rs++[(a:Int)]))]) (by show [_,_,_,_,_]=_;rw[ah];rfl) ?_)|(refine wF 127 ?_;refine CallG.mo [0,1,2,3,8,9] hf2 rfl fZ rfl rfl rfl ⟨VLe.refl _,VLe.refl _,VLe.refl _,VLe.refl _,trivial⟩ ⟨⟨rfl,_,rfl,rfl,fun h=>h⟩,⟨rfl,_,rfl,rfl,fun h=>h⟩,⟨rfl,_,rfl,rfl,fun h=>h⟩,FitP.op rfl rfl trivial⟩ rfl rfl (wr:=[(0,some (ldB (E.length:Nat) nt num p Eo (.cst x) (.row 10 11 (rs++[(a:Int)]++[(c:Int)]).length))),(1,some (oB E)),(2,some (pB E)),(8,none),(10,unB 10 (rs++[(a:Int)]++[(c:Int)]))]) (by show [_,_,_,_,_]=_;rw[ah];rfl) ?_))|exact wv1|exact wv2|exact wv3|exact wv4|exact wv5|exact wv6|exact wv7|refine y3 ?_|refine y7 ?_ ?_|refine y4 ?_|(refine y9 ?_ ?_<;>intro h)|exact y5|fail)
   all_goals try first
    |omega
    |exact wv1
    |exact wv2
    |exact wv3
    |exact wv4
    |exact wv5
    |exact wv6
    |exact wv7
    |exact aa (by omega) (by omega)
   generalize (db+8*(p.getD (i+3) dN).int-1).tdiv (8*(p.getD (i+3) dN).int)*(p.getD (i+3) dN).int=ln at*;generalize hU:fO 0 0 ln a c du E=U at hR;subst hR
   dsimp only
   refine Ex.inv (σ:=Nat×List Ent) (fun q=>[(98,nI q.1)]) (fun q=>[(0,some (ldB (q.2.length:Nat) nt num p Eo (.cst x) (.row 10 11 (rs++[(a:Int)]++[(c:Int)]).length))),(1,some (oB q.2)),(2,some (pB q.2)),(3,some (tB T)),(7,some {cells:=[.int .i64 0,.int .u64 0,.int .u64 ln],ty:=82}),(10,unB 10 (rs++[(a:Int)]++[(c:Int)]))]) (fun q=>q.1<=du.length/\q.2.length=E.length/\(∀ k,(q.2.getD k eZ).bit<=1099511627776)/\fO 0 0 ln a c (du.drop q.1) q.2=U) (fun q=>du.length-q.1) (0,E) rfl (fun _=>rfl) ⟨Nat.zero_le _,rfl,hbt,hU⟩ ⟨VLe.refl _,trivial⟩ ⟨rfl,rfl,rfl,rfl,rfl,SubP.op rfl trivial⟩ ?_;rintro⟨j,E1⟩ ⟨j1,j2,j3,j4⟩;simp only at j1 j2 j3 j4 |-;by_cases hj:j<du.length
   ·have hu:=hdu (du.getD j 0) (xD hj)
    rw[ub hj] at j4;obtain⟨n,hn⟩:=Int.eq_ofNat_of_zero_le hu.1
    have hn':(du.getD j 0).toNat=n:=by omega
    have hv:=ua 0 0 ln (E1.getD n eZ).bit (E1.getD n eZ).len (E1.getD n eZ).wid (E1.getD n eZ).upd a c (by omega) (by omega) hl0 hl1 (j3 n);rw[fO,hn'] at j4
    cases hvb:xz 0 0 ln (E1.getD n eZ).bit (E1.getD n eZ).len (E1.getD n eZ).wid (E1.getD n eZ).upd with
    |false=>
     rw[hvb] at j4 hv;rw[if_neg (by simp)] at j4;subst j4
     repeat'(first|exact y0|refine y1 ?_|refine y2 ?_ ?_|(refine y8 ?_ ?_<;>intro h<;>try(exact y6))|(refine wC ?_;first|refine wF 129 (bo hv ?_))|refine RegX.oLk n rfl rfl hn (by omega) rfl rfl rfl rfl rfl ?_|refine y3 ?_|refine y7 ?_ ?_|refine y4 ?_|(refine y9 ?_ ?_<;>intro h)|exact y5|fail)
     all_goals try first
      |omega
      |exact aa (by omega) (by omega)
     exact Fin.sd 10 (.inl rfl) rfl rfl rfl rfl rfl rfl rfl rfl rfl
    |true=>
     rw[hvb] at j4 hv;rw[if_pos rfl] at j4
     repeat'(first|exact y0|refine y1 ?_|refine y2 ?_ ?_|(refine y8 ?_ ?_<;>intro h<;>try(exact y6))|(refine wC ?_;first|refine wF 129 (bo hv ?_))|refine RegX.oLk n rfl rfl hn (by omega) rfl rfl rfl rfl rfl ?_|refine RegX.oUpd n (spR (E1.getD n eZ) 0 0 ln a c) rfl rfl hn (by omega) (VLe.refl _) rfl rfl rfl rfl ?_|refine y3 ?_|refine y7 ?_ ?_|refine y4 ?_|(refine y9 ?_ ?_<;>intro h)|exact y5|fail)
     all_goals try first
      |omega
      |exact aa (by omega) (by omega)
     have hls:= @List.length_set _ E1 n (spR (E1.getD n eZ) 0 0 ln a c);refine LoopR.same (j+1,E1.set n (spR (E1.getD n eZ) 0 0 ln a c)) ⟨by simp only;omega,by simp only[hls];exact j2,vu j3,j4⟩ (by simp only;omega) rfl ⟨VLe.refl _,trivial⟩ ⟨?_,rfl,?_,rfl,rfl,SubP.op rfl trivial⟩ rfl ?_ (by decide)
     ·simp only[hls];rfl
     ·simp only[yo];rfl
     ·unfold unB
      generalize List.map _ (rs++[(a:Int)]++[(c:Int)])=cu
      cases cu<;>rfl
   ·have hd:du.drop j=[]:=by simp;omega
    rw[hd] at j4;simp only[fO] at j4;subst j4
    repeat'(first|exact y0|refine y1 ?_|refine y2 ?_ ?_|(refine y8 ?_ ?_<;>intro h<;>try(exact y6))|refine y3 ?_|refine y7 ?_ ?_|refine y4 ?_|(refine y9 ?_ ?_<;>intro h)|exact y5|fail)
    all_goals exact Fin.sd 10 (.inl rfl) rfl rfl rfl rfl rfl rfl rfl rfl rfl
end Go.Proofs.YtegjgpldfgjoiaaGreatDoor
