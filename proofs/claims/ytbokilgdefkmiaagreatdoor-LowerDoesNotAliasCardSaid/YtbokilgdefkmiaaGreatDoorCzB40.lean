import Derived.Test.YtbokilgdefkmiaaGreatDoorCzB31
import Derived.Test.YtbokilgdefkmiaaGreatDoorCzB39
import Derived.Test.YtbokilgdefkmiaaGreatDoorCzB15
import Derived.Test.YtbokilgdefkmiaaGreatDoorCzB33
import Derived.Test.YtbokilgdefkmiaaGreatDoorCzB38
set_option linter.unusedSimpArgs false
set_option linter.unusedVariables false
namespace Go.Proofs.YtbokilgdefkmiaaGreatDoor
open Go Ab
set_option maxRecDepth 100000
set_option maxHeartbeats 2000000
def zrU (R:Cd):Nat→Cd
 |0=>R
 |k+1=>(zrU R k).set k dI
theorem zrU_len (R:Cd):∀ k,(zrU R k).length=R.length
 |0=>rfl
 |k+1=>by rw[zrU,List.length_set,zrU_len R k]
theorem ins_set:∀ (C:Cd) (j:Nat) (x:Ins),j<C.length→(C.set j x).flatMap insC=setL (C.flatMap insC) (j*3) (insC x)
 |[],j,x,h=>by simp at h
 |y::C,0,x,_=>rfl
 |y::C,j+1,x,h=>by
  have ih:=ins_set C j x (by simpa using h);rw[List.set_cons_succ,List.flatMap_cons,List.flatMap_cons,ih,show (j+1)*3=j*3+3 by omega];rfl
abbrev zB (C:Cd):Bl:={cells:=C.flatMap insC,ty:=40,more:=true,sym:=true,flat:=true}
section
variable {P:Program} {ops:Array Oper} {d:Bool} {acc:List Row} {os:List Oper} {env:List V} {n:Nat} {L:Hp} {R:Post}
theorem RegX.ins {t:TypeId} {a v:Operand} {t':TypeId} {pos:String} {af:Array Edge} {gd:Option (Nat×Bool)} {C:Cd} {c off:Nat} (j:Nat) (x:Ins)
 (ha:ev env a=.s (.ptr (some (c,off)))) (ho:off=j*3) (hv:ev env v=.agg (insC x)) (hl:lk L c=some (zB C)) (hj:j<C.length) (ht:elemSz P t=some 3)
 (hw:want ops env ⟨none,.store t a v,t',pos,af,gd⟩=some true)
 (k:RegX P ops d (pushR d ⟨none,.store t a v,t',pos,af,gd⟩ [c] [(c,some (zB (C.set j x)))] acc) os env n (puts L [(c,some (zB (C.set j x)))]) R):RegX P ops d acc (⟨none,.store t a v,t',pos,af,gd⟩::os) env n L R:=by
 have hlen:=ins_len C;have hp:=ins_set C j x hj
 have h:aStore P n L t (ev env a) (ev env v) [.cells ((C.set j x).flatMap insC)]=some ⟨⟨[c],.undef,[(c,some (zB (C.set j x)))],n⟩,[],off+3≤(C.flatMap insC).length∧(C.set j x).flatMap insC=setL (C.flatMap insC) off (insC x)⟩:=by
  unfold aStore;rw[ha,hv];simp only[hl,ht];rfl
 have hk:=aStore_ok (P:=P) (env:=env) (n:=n) (L:=L) (t:=t) (x:=a) (y:=v) (o:=⟨none,.store t a v,t',pos,af,gd⟩) rfl h ⟨by rw[hlen];omega,by rw[hp,ho]⟩;exact RegX.op hw hk.1 hk.2 k
end
theorem over_c (R:Cd) (hb:R.length≤900000000):FC Tryz.prog 19 [.s (.slc (some (0,0)) R.length none)] 1 [(0,some (zB R))] .any 1 [(0,some (zB (zrU R R.length)))]:=by
 refine FC.walk (by kernel_rfl) Tryz.func19 rfl rfl ?_
 repeat'(first|exact y0|refine y1 ?_|refine y2 ?_ ?_|(refine y8 ?_ ?_<;>intro h<;>try exact y6)|refine y3 ?_|refine y7 ?_ ?_|refine y4 ?_|(refine y9 ?_ ?_<;>intro h)|exact y5|fail)
 refine Ex.inv (σ:=Nat) (fun j=>[(3,nI j)]) (fun j=>[(0,some (zB (zrU R j))),(1,some {cells:=insC dI,ty:=40})]) (fun j=>j≤R.length) (fun j=>R.length-j) 0 rfl (fun _=>rfl) (Nat.zero_le _) ⟨VLe.refl _,trivial⟩ ⟨rfl,rfl,trivial⟩ ?_;intro j hj
 rcases Nat.lt_or_ge j R.length with hlt|hge
 ·
  repeat'(first|exact y0|refine y1 ?_|refine y2 ?_ ?_|(refine y8 ?_ ?_<;>intro h<;>try exact y6)|refine RegX.ins j dI rfl (by rw[plus_eq,times_eq,Nat.zero_add];rfl) rfl rfl (by rw[zrU_len];exact hlt) rfl rfl ?_|refine y3 ?_|refine y7 ?_ ?_|refine y4 ?_|(refine y9 ?_ ?_<;>intro h)|exact y5|fail)
  all_goals try first
   |omega
   |exact i64_in (by omega) (by omega)
  refine LoopR.same (j+1) hlt (by omega) rfl ⟨VLe.of_eq (congrArg nI (by push_cast;omega)),trivial⟩ ⟨rfl,rfl,trivial⟩ rfl rfl (by decide)
 ·obtain rfl:j=R.length:=by omega
  repeat'(first|exact y0|refine y1 ?_|refine y2 ?_ ?_|(refine y8 ?_ ?_<;>intro h<;>try exact y6)|refine y3 ?_|refine y7 ?_ ?_|refine y4 ?_|(refine y9 ?_ ?_<;>intro h)|exact y5|fail)
  exact⟨.inr rfl,.tup [],[],VLe.any _,EndOK.by rfl ⟨rfl,trivial⟩ rfl rfl rfl rfl⟩
theorem over_nil:FC Tryz.prog 19 [.s (.slc none 0 (some 0))] 0 [] .any 0 []:=by
 refine FC.walk (by kernel_rfl) Tryz.func19 rfl rfl ?_
 repeat'(first|exact y0|refine y1 ?_|refine y2 ?_ ?_|(refine y8 ?_ ?_<;>intro h<;>try exact y6)|refine y3 ?_|refine y7 ?_ ?_|refine y4 ?_|(refine y9 ?_ ?_<;>intro h)|exact y5|fail)
 refine Ex.inv (σ:=Nat) (fun j=>[(3,nI j)]) (fun j=>[(0,some {cells:=insC dI,ty:=40})]) (fun j=>j=0) (fun j=>0) 0 rfl (fun _=>rfl) rfl ⟨VLe.refl _,trivial⟩ ⟨rfl,trivial⟩ ?_;rintro j rfl
 repeat'(first|exact y0|refine y1 ?_|refine y2 ?_ ?_|(refine y8 ?_ ?_<;>intro h<;>try exact y6)|refine y3 ?_|refine y7 ?_ ?_|refine y4 ?_|(refine y9 ?_ ?_<;>intro h)|exact y5|fail)
 exact⟨.inr rfl,.tup [],[],VLe.any _,EndOK.by rfl trivial rfl rfl rfl rfl⟩
set_option maxRecDepth 100000
set_option maxHeartbeats 2000000
theorem eqN_c (a:List Nd) (hb:a.length≤1000000000000):FC Tryz.prog 40 [nodes a,nodes a] 0 [] (bV true) 0 []:=by
 unfold nodes;refine FC.walk (by kernel_rfl) Tryz.func40 rfl rfl ?_
 repeat'(first|exact y0|refine y1 ?_|refine y2 ?_ ?_|(refine y8 ?_ ?_<;>intro h<;>try exact y6)|refine Fin.bool (.inl rfl) rfl ?_|refine y3 ?_|refine y7 ?_ ?_|refine y4 ?_|(refine y9 ?_ ?_<;>intro h)|exact y5|fail)
 refine Ex.inv (σ:=Nat) (fun j=>[(5,nI j)]) (fun _=>[]) (fun j=>j≤a.length) (fun j=>a.length-j) 0 rfl (fun _=>rfl) (Nat.zero_le _) ⟨VLe.refl _,trivial⟩ trivial ?_;intro j hj;by_cases hlt:j<a.length
 ·
  repeat'(first|exact y0|refine y1 ?_|refine y2 ?_ ?_|(refine y8 ?_ ?_<;>intro h<;>try exact y6)|refine y3 ?_|refine y7 ?_ ?_|refine y4 ?_|(refine y9 ?_ ?_<;>intro h)|exact y5|fail)
  refine RegX.atCmp (CmpG.go rfl rfl ⟨⟨by kernel_rfl,by kernel_rfl⟩,trivial⟩ (BrG.any (fun h=>?_) (fun h=>?_)))
  ·exfalso;simp at h
  repeat'(first|exact y0|refine y1 ?_|refine y2 ?_ ?_|(refine y8 ?_ ?_<;>intro h<;>try exact y6)|refine y3 ?_|refine y7 ?_ ?_|refine y4 ?_|(refine y9 ?_ ?_<;>intro h)|exact y5|fail)
  all_goals try first
   |exact i64_in (by omega) (by omega)
  refine LoopR.same (j+1) (by omega) (by omega) rfl ⟨VLe.refl _,trivial⟩ trivial rfl rfl (by decide)
 ·
  repeat'(first|exact y0|refine y1 ?_|refine y2 ?_ ?_|(refine y8 ?_ ?_<;>intro h<;>try exact y6)|exact Fin.bool (.inl rfl) rfl rfl|refine y3 ?_|refine y7 ?_ ?_|refine y4 ?_|(refine y9 ?_ ?_<;>intro h)|exact y5|fail)
set_option maxRecDepth 100000
set_option maxHeartbeats 2000000
def mkC:List S:=[.int .i64 77,.int .u64 0,.str [],.int .i64 0]
def spB (p:List Nd):Bl:={cells:=p.flatMap ndC++(mkC++mkC++mkC),ty:=31,more:=true,sym:=true,flat:=true}
theorem sp_get {p:List Nd} {k j:Nat} {x:S} (hk:k<p.length) (hx:(ndC (p.getD k dN))[j]? =some x):(spB p).cells[k*4+j]? =some x∧pureS x=true:=by
 have h:=flat_get ndC 4 dN (fun _=>rfl) hk hx;refine⟨?_,?_⟩
 ·show (p.flatMap ndC++_)[k*4+j]? =_
  rw[List.getElem?_append_left (by obtain⟨h1,_⟩:=List.getElem?_eq_some_iff.1 h;exact h1)];exact h
 ·rcases j with _|_|_|_|j
  ·cases hx;rfl
  ·cases hx;rfl
  ·cases hx;rfl
  ·cases hx;rfl
  ·simp[ndC] at hx
theorem spare_0 (p:List Nd) (h0:0<p.length) (hb:p.length≤2000000000):FC Tryz.prog 16 [nodes p,.agg mkC] 0 [] (.s (.slc (some (0,0)) p.length (some (p.length+3)))) 2 [(0,some {spB p with gh:=some (1,4)})]:=by
 unfold nodes;refine FC.walk (by kernel_rfl) Tryz.func16 rfl rfl ?_
 have hsz:(Tryz.prog.types[31]).size=4:=by kernel_rfl
 have hby:(Tryz.prog.types[31]).bytes=40:=by kernel_rfl
 have hnp:(p.flatMap ndC).all noPtr=true:=nd_fit {cells:=[],ty:=0,flat:=true} p
 obtain⟨c,cs,hc⟩:∃ c cs,p.flatMap ndC=c::cs:=by
  cases h:p.flatMap ndC with
  |nil=>have h2:=nd_len p;rw[h] at h2;simp at h2;omega
  |cons c cs=>exact⟨c,cs,rfl⟩
 repeat'(first|refine Ex.set 5 (.s (.row 2 3 p.length)) (VLe.s (SLe.slarow h0)) rfl (Ex.flat 2 rfl rfl hnp rfl ?_)|exact y0|refine y1 ?_|refine y2 ?_ ?_|(refine y8 ?_ ?_<;>intro h<;>try exact y6)|refine RegX.apr (i:=2) (g:=3) (m:=p.length) (w:=4) (cs:=p.flatMap ndC) (foot:=[4]) (k:=3) (add:=mkC++mkC++mkC) rfl ?_ (by rw[nd_len]) rfl rfl rfl rfl rfl rfl rfl hsz (by decide) rfl ⟨by decide,rfl⟩ (by decide) (by simp[mkC]) rfl (by rw[hby];omega) (by omega) rfl ?_|refine RegX.app [.app p.length (p.flatMap ndC)] rfl rfl ?_ rfl rfl rfl ?_|refine RegX.sl3 p.length rfl (by omega) rfl rfl (by push_cast;omega) (by push_cast;omega) (by omega) rfl rfl rfl ?_|refine y3 ?_|refine y7 ?_ ?_|refine y4 ?_|(refine y9 ?_ ?_<;>intro h)|exact y5|fail)
 all_goals try first
  |(rw[nd_flat];exact (List.nil_append _).symm)
  |(rw[nd_flat];exact nd_fit _ _)
  |(rw[hby];omega)
  |(rw[hsz];simp only[hc];rfl)
 exact⟨.inl rfl,_,[5,6],VLe.refl _,EndOK.by rfl ⟨by show opB _ _ _ _=some _;unfold spB renB;simp only[hc];rfl,trivial⟩ rfl rfl rfl rfl⟩
theorem spare_c (p:List Nd) (h0:0<p.length) (hb:p.length≤2000000000):FC Tryz.prog 16 [nodes p,.agg mkC] 0 [] (.s (.slc (some (0,0)) p.length (some (p.length+3)))) 2 [(0,some (spB p))]:=by
 refine (spare_0 p h0 hb).post fun i bl' hi=>?_
 rw[lk_cons] at hi;split at hi
 ·rename_i e;subst e;cases hi
  exact⟨_,rfl,rfl,fun φ w b h=>h.gh0⟩
 ·cases hi
theorem eqN_w (p:List Nd) (hb:p.length≤2000000000):FC Tryz.prog 40 [.s (.slc (some (0,0)) p.length (some (p.length+3))),nodes p] 1 [(0,some (spB p))] (bV true) 1 [(0,some (spB p))]:=by
 have h:=eqN_c p (by omega);exact⟨h.1,SC.thawB (fun k=>ndC (p.getD k dN)) 4 h.2 rfl rfl (fun _ _=>rfl) (fun k j x hk hx=>sp_get hk hx) rfl⟩
theorem sp_ld {p:List Nd} {i:Nat} (h1:p.length≤i) (h2:i<p.length+3):ldAt true 4 (spB p) (i*4)=some (.agg mkC):=by
 obtain⟨r,rfl,hr⟩:∃ r,i=p.length+r∧r<3:=⟨i-p.length,by omega,by omega⟩
 have hl:=nd_len p
 have e1:(spB p).cells.drop ((p.length+r)*4)=(mkC++mkC++mkC).drop (r*4):=by
  show (p.flatMap ndC++_).drop _=_;rw[List.drop_append,List.drop_eq_nil_of_le (by omega),List.nil_append,hl,show (p.length+r)*4-p.length*4=r*4 by omega]
 have e2:Nat.ble ((p.length+r)*4+4) (spB p).cells.length=true:=by
  rw[Nat.ble_eq];show _≤(p.flatMap ndC++(mkC++mkC++mkC)).length;rw[List.length_append,hl,show (mkC++mkC++mkC).length=12 from rfl];omega
 unfold ldAt;rw[show (spB p).kind=none from rfl];simp only;rw[e2,e1]
 match r,hr with
 |0,_=>rfl
 |1,_=>rfl
 |2,_=>rfl
theorem unch_c (p:List Nd) (hb:p.length≤2000000000):FC Tryz.prog 17 [.s (.slc (some (0,0)) p.length (some (p.length+3))),nodes p,.agg mkC] 1 [(0,some (spB p))] (bV true) 1 [(0,some (spB p))]:=by
 have heq:=eqN_w p hb;unfold nodes at heq ⊢;refine FC.walk (by kernel_rfl) Tryz.func17 rfl rfl ?_
 repeat'(first|exact y0|refine y1 ?_|refine y2 ?_ ?_|(refine y8 ?_ ?_<;>intro h<;>try exact y6)|(refine wC ?_;first|(refine wF 40 ?_;refine CallG.mo [0] heq rfl rfl (by rfl) rfl rfl ⟨VLe.refl _,VLe.refl _,trivial⟩ ⟨⟨rfl,_,rfl,rfl,fun h=>h⟩,trivial⟩ rfl rfl (wr:=[(0,some (spB p))]) (by rfl) ?_))|refine RegX.cap1 rfl rfl rfl ?_|refine RegX.sl2 (p.length+3) rfl rfl (by push_cast;rfl) (by omega) (by omega) rfl rfl rfl ?_|refine y3 ?_|refine y7 ?_ ?_|refine y4 ?_|(refine y9 ?_ ?_<;>intro h)|exact y5|fail)
 have hsz:(Tryz.prog.types[31]).size=4:=by kernel_rfl
 refine Ex.inv (σ:=Nat) (fun i=>[(8,nI i)]) (fun _=>[(0,some (spB p)),(1,some {cells:=mkC,ty:=31})]) (fun i=>p.length≤i∧i≤p.length+3) (fun i=>p.length+3-i) p.length rfl (fun _=>rfl) ⟨Nat.le_refl _,by omega⟩ ⟨VLe.refl _,trivial⟩ ⟨rfl,rfl,trivial⟩ ?_;rintro i ⟨hi1,hi2⟩
 rcases Nat.lt_or_ge i (p.length+3) with hlt|hge
 ·have hld:ldAt true 4 (spB p) (i*4)=some (.agg mkC):=sp_ld hi1 hlt
  repeat'(first|exact y0|refine y1 ?_|refine y2 ?_ ?_|(refine y8 ?_ ?_<;>intro h<;>try exact y6)|refine RegX.ldS [.val (.agg mkC)] rfl rfl (by rw[hsz,plus_eq,times_eq,Nat.zero_add];exact hld) rfl ?_|refine y3 ?_|refine y7 ?_ ?_|refine y4 ?_|(refine y9 ?_ ?_<;>intro h)|exact y5|fail)
  refine RegX.atCmp (CmpG.go rfl rfl ⟨⟨by kernel_rfl,by kernel_rfl⟩,trivial⟩ (BrG.any (fun h=>?_) (fun h=>?_)))
  ·exfalso;revert h;decide
  repeat'(first|exact y0|refine y1 ?_|refine y2 ?_ ?_|(refine y8 ?_ ?_<;>intro h<;>try exact y6)|refine y3 ?_|refine y7 ?_ ?_|refine y4 ?_|(refine y9 ?_ ?_<;>intro h)|exact y5|fail)
  all_goals try first
   |exact i64_in (by omega) (by omega)
  refine LoopR.same (i+1) ⟨by omega,by omega⟩ (by omega) rfl ⟨VLe.of_eq (congrArg nI (by push_cast;omega)),trivial⟩ ⟨rfl,rfl,trivial⟩ rfl rfl (by decide)
 ·obtain rfl:i=p.length+3:=by omega
  repeat'(first|exact y0|refine y1 ?_|refine y2 ?_ ?_|(refine y8 ?_ ?_<;>intro h<;>try exact y6)|refine y3 ?_|refine y7 ?_ ?_|refine y4 ?_|(refine y9 ?_ ?_<;>intro h)|exact y5|fail)
  all_goals exact⟨.inl rfl,_,[],VLe.refl _,EndOK.by rfl ⟨rfl,trivial⟩ rfl rfl rfl rfl⟩
set_option maxRecDepth 100000
set_option maxHeartbeats 2000000
theorem Ex.fzAt9 {P:Program} {b n:Nat} {env:List V} {L:Hp} {R:Post} {ops:Array Oper} {d:Bool} (t:Nat) (get:Nat→List S) (sz:Nat) {i N:Nat} {bl:Bl} (ht:sliceOf (env.getD t .undef)=some (i,N)) (hl:lk L i=some bl) (hro:bl.ro=false) (hk:bl.kind=none)
 (hg:∀ k,k<N→(get k).length=sz) (hc:∀ k j x,k<N→(get k)[j]? =some x→bl.cells[k*sz+j]? =some x∧pureS x=true)
 {env':List V} (he:env.set t (.s (.frz get sz N))=env') {L':Hp} (hL:put L i none=L') (k:Ex P b (.region 9 ops d) env' n L' R):Ex P b (.region 9 ops d) env n L R:=Ex.fz t get sz ht hl hro hk hg hc he hL k
theorem depth_nil:FC Tryz.prog 13 [.s (.slc none 0 (some 0))] 0 [] (.tup [.s (.int .i64 0),.s (.bool false)]) 0 []:=by
 refine FC.walk (by kernel_rfl) Tryz.func13 rfl rfl ?_
 repeat'(first|exact y0|refine y1 ?_|refine y2 ?_ ?_|(refine y8 ?_ ?_<;>intro h<;>try exact y6)|refine y3 ?_|refine y7 ?_ ?_|refine y4 ?_|(refine y9 ?_ ?_<;>intro h)|exact y5|fail)
 exact⟨.inl rfl,_,[],VLe.refl _,EndOK.by rfl trivial rfl rfl rfl rfl⟩
theorem ins_pure {R:Cd} {k j:Nat} {x:S} (hk:k<R.length) (hx:(insC (R.getD k dI))[j]? =some x):(R.flatMap insC)[k*3+j]? =some x∧pureS x=true:=by
 refine⟨flat_get insC 3 dI (fun _=>rfl) hk hx,?_⟩
 rcases j with _|_|_|j
 ·cases hx;rfl
 ·cases hx;rfl
 ·cases hx;rfl
 ·simp[insC] at hx
theorem ins_fit (bl:Bl) (R:Cd):fitsIn bl (R.flatMap insC)=true:=by
 have h1:∀ r:Cd,(r.flatMap insC).all noPtr=true:=by
  intro r
  induction r with
  |nil=>rfl
  |cons x r ih=>rw[List.flatMap_cons,List.all_append,ih];rfl
 exact fitsIn_of fun x hx=>List.all_eq_true.1 (h1 R) x hx
def LowT (p:List Nd) (i:Nat):Prop:=∃ (R:Cd) (e:Int),
 (R=[]∧FC Tryz.prog 12 [.s (.slc (some (0,0)) p.length (some (p.length+3))),nI i] 1 [(0,some (spB p))] (.tup [.s (.slc none 0 (some 0)),.s (.int .i64 e)]) 3 [(0,some (spB p))])∨
 (0<R.length∧R.length≤900000000∧(∃ d:Int×Bool,FC Tryz.prog 13 [.s (.sla 0 1 R.length)] 2 [(0,some (dpB R))] (.tup [.s (.int .i64 d.1),.s (.bool d.2)]) 2 [(0,some (dpB R))])∧
   FC Tryz.prog 12 [.s (.slc (some (0,0)) p.length (some (p.length+3))),nI i] 1 [(0,some (spB p))] (.tup [.s (.row 1 2 R.length),.s (.int .i64 e)]) 3 [(0,some (spB p)),(1,ccB 1 R)])
theorem alias_w (l:List Int) (p:List Nd) (hpl:p.length≤2000000000) (k0:Nat) (hk0:k0<p.length) (h14:(p.getD k0 dN).op=14) (hsys:FC Tryz.prog 10 [.s (chF l)] 0 [] (nodes p) 0 []) (haw:FC Tryz.prog 7 [] 0 [] (bV true) 0 [])
 (hlow:∀ i,i<p.length→(p.getD i dN).op=14→LowT p i)
 (heqI:∀ R:Cd,R.length≤900000000→FC Tryz.prog 18 [.s (.frz (fun k=>insC (R.getD k dI)) 3 R.length),.s (.frz (fun k=>insC (R.getD k dI)) 3 R.length)] 0 [] (bV true) 0 []):
 FC Tryz.prog 6 [.s (chF l)] 0 [] (bV true) 0 []:=by
 have hsp:=spare_c p (by omega) hpl;have hun:=unch_c p hpl;refine FC.walk (by kernel_rfl) Tryz.func6 rfl rfl ?_
 repeat'(first|exact y0|refine y1 ?_|refine y2 ?_ ?_|(refine y8 ?_ ?_<;>intro h<;>try exact y6)|(refine wC ?_;first|refine wF 10 (pu hsys ?_))|refine y3 ?_|refine y7 ?_ ?_|refine y4 ?_|(refine y9 ?_ ?_<;>intro h)|exact y5|fail)
 refine Ex.inv (σ:=Nat) (fun i=>[(4,nI i)]) (fun _=>[]) (fun i=>i≤k0) (fun i=>k0-i) 0 rfl (fun _=>rfl) (Nat.zero_le _) ⟨VLe.refl _,trivial⟩ trivial ?_;intro i hi;by_cases ho:(p.getD i dN).op=14
 ·obtain⟨R,e,⟨rfl,hL⟩|⟨hR0,hRl,⟨d,hdp⟩,hL⟩⟩:=hlow i (by omega) ho
  ·have he:=heqI [] (by decide)
   have hdn:=depth_nil;have hov:=over_nil
   repeat'(first|exact y0|refine y1 ?_|refine y2 ?_ ?_|(refine y8 ?_ ?_<;>intro h<;>try exact y6)|(refine wC ?_;first|refine wF 7 (pu haw ?_)|(refine wF 16 ?_;refine CallG.mo [] hsp rfl rfl (by rfl) rfl rfl ⟨VLe.refl _,VLe.refl _,trivial⟩ trivial rfl rfl (wr:=[(0,some (spB p))]) (by rfl) ?_)|(refine wF 17 ?_;refine CallG.mo [0] hun rfl rfl (by rfl) rfl rfl ⟨VLe.refl _,VLe.refl _,VLe.refl _,trivial⟩ ⟨⟨rfl,_,rfl,rfl,fun h=>h⟩,trivial⟩ rfl rfl (wr:=[(0,some (spB p))]) (by rfl) ?_)|(refine wF 12 ?_;refine CallG.mo [0] hL rfl rfl (by rfl) rfl rfl ⟨VLe.refl _,VLe.refl _,trivial⟩ ⟨⟨rfl,_,rfl,rfl,fun h=>h⟩,trivial⟩ rfl rfl (wr:=[(0,some (spB p))]) (by rfl) ?_)|(refine wF 13 ?_;refine CallG.mo [] hdn rfl rfl (by rfl) rfl rfl ⟨VLe.refl _,trivial⟩ trivial rfl rfl (wr:=[]) (by rfl) ?_)|(refine wF 19 ?_;refine CallG.mo [] hov rfl rfl (by rfl) rfl rfl ⟨VLe.refl _,trivial⟩ trivial rfl rfl (wr:=[]) (by rfl) ?_)|(refine wF 18 ?_;refine CallG.mo [] he rfl rfl (by rfl) rfl rfl ⟨VLe.s SLe.nil,VLe.s SLe.nil,trivial⟩ trivial rfl rfl (wr:=[]) (by rfl) ?_))|refine RegX.apNil rfl trivial rfl rfl rfl rfl rfl ?_|refine Fin.bool (.inl rfl) rfl ?_|refine y3 ?_|refine y7 ?_ ?_|refine y4 ?_|(refine y9 ?_ ?_<;>intro h)|exact y5|fail)
  ·have he:=heqI R hRl
   have heW:FC Tryz.prog 18 [.s (.slc (some (0,0)) R.length none),.s (.frz (fun k=>insC (R.getD k dI)) 3 R.length)] 1 [(0,some (zB R))] (bV true) 1 [(0,some (zB R))]:=⟨he.1,SC.thawB (fun k=>insC (R.getD k dI)) 3 he.2 rfl rfl (fun _ _=>rfl) (fun k j x hk hx=>ins_pure hk hx) rfl⟩
   have hov:=over_c R hRl
   have hcc:∀ c,ccB c R=some {cells:=R.flatMap insC,ty:=40,more:=true,sym:=true,flat:=true,gh:=some (c+1,3)}:=by
    intro c;show opB _ _ _ _=_
    cases hq:R.flatMap insC with
    |nil=>have:=ins_len R;rw[hq] at this;simp at this;omega
    |cons x r=>rfl
   rw[hcc] at hL
   have hsz:(Tryz.prog.types[40]).size=3:=by kernel_rfl
   have hby:(Tryz.prog.types[40]).bytes=32:=by kernel_rfl
   repeat'(first|refine Ex.set 6 (.s (.sla 2 3 R.length)) (VLe.s (SLe.rowsla hR0)) rfl ?_|refine Ex.ghAt 9 2 rfl rfl rfl (Ex.fzAt9 8 (fun k=>insC (R.getD k dI)) 3 rfl rfl rfl rfl (fun _ _=>rfl) (fun k j x hk hx=>ins_pure hk hx) rfl rfl ?_)|exact y0|refine y1 ?_|refine y2 ?_ ?_|(refine y8 ?_ ?_<;>intro h<;>try exact y6)|(refine wC ?_;first|refine wF 7 (pu haw ?_)|(refine wF 16 ?_;refine CallG.mo [] hsp rfl rfl (by rfl) rfl rfl ⟨VLe.refl _,VLe.refl _,trivial⟩ trivial rfl rfl (wr:=[(0,some (spB p))]) (by rfl) ?_)|(refine wF 17 ?_;refine CallG.mo [0] hun rfl rfl (by rfl) rfl rfl ⟨VLe.refl _,VLe.refl _,VLe.refl _,trivial⟩ ⟨⟨rfl,_,rfl,rfl,fun h=>h⟩,trivial⟩ rfl rfl (wr:=[(0,some (spB p))]) (by rfl) ?_)|(refine wF 12 ?_;refine CallG.mo [0] hL rfl rfl (by rfl) rfl rfl ⟨VLe.refl _,VLe.refl _,trivial⟩ ⟨⟨rfl,_,rfl,rfl,fun h=>h⟩,trivial⟩ rfl rfl (wr:=[(0,some (spB p)),(2,some {cells:=R.flatMap insC,ty:=40,more:=true,sym:=true,flat:=true,gh:=some (3,3)})]) (by rfl) ?_)|(refine wF 12 ?_;refine CallG.mo [0] hL rfl rfl (by rfl) rfl rfl ⟨VLe.refl _,VLe.refl _,trivial⟩ ⟨⟨rfl,_,rfl,rfl,fun h=>h⟩,trivial⟩ rfl rfl (wr:=[(0,some (spB p)),(6,some {cells:=R.flatMap insC,ty:=40,more:=true,sym:=true,flat:=true,gh:=some (7,3)})]) (by rfl) ?_)|(refine wF 13 ?_;refine CallG.mv [2,3] 2 (bl1:={dpB R with gh:=some (3,3)}) hdp rfl rfl ⟨VLe.refl _,trivial⟩ rfl rfl (fun φ w b h=>BlAt.weaken h true (fun _=>rfl)) rfl ⟨⟨rfl,_,rfl,rfl,fun h=>h⟩,trivial⟩ rfl rfl rfl rfl ?_)|(refine wF 18 ?_;refine CallG.mo [2] heW rfl rfl (by rfl) rfl rfl ⟨VLe.s SLe.slaslc,VLe.refl _,trivial⟩ ⟨⟨rfl,_,rfl,rfl,fun h=>h⟩,trivial⟩ rfl rfl (wr:=[(2,some (zB R))]) (by rfl) ?_)|(refine wF 19 ?_;refine CallG.mo [2] hov rfl rfl (by rfl) rfl rfl ⟨VLe.s SLe.slaslc,trivial⟩ ⟨⟨rfl,_,rfl,rfl,fun h=>h⟩,trivial⟩ rfl rfl (wr:=[(2,some (zB (zrU R R.length)))]) (by rfl) ?_)|(refine wF 18 ?_;refine CallG.pz 57 (fun k=>insC (R.getD k dI)) 3 he rfl rfl rfl rfl (fun _ _=>rfl) (fun k j x hk hx=>ins_pure hk hx) rfl ⟨VLe.refl _,VLe.refl _,trivial⟩ rfl rfl rfl ?_))|refine RegX.app [.app R.length (R.flatMap insC)] rfl rfl ?_ rfl rfl rfl ?_|refine Fin.bool (.inl rfl) rfl ?_|refine y3 ?_|refine y7 ?_ ?_|refine y4 ?_|(refine y9 ?_ ?_<;>intro h)|exact y5|fail)
   all_goals try first
    |omega
    |(rw[hsz];show _≤(R.flatMap insC).length;rw[ins_len];omega)
    |(rw[hsz];show _=[]++List.take _ (R.flatMap insC);rw[List.nil_append,List.take_of_length_le (by rw[ins_len];omega)])
    |(rw[hsz];show fitsIn _ (List.take _ (R.flatMap insC))=true;rw[List.take_of_length_le (by rw[ins_len];omega)];exact ins_fit _ _)
    |(rw[hby];omega)
 ·have hne:i≠k0:=fun h=>ho (h▸h14)
  repeat'(first|exact y0|refine y1 ?_|refine y2 ?_ ?_|(refine y8 ?_ ?_<;>intro h<;>try exact y6)|refine y3 ?_|refine y7 ?_ ?_|refine y4 ?_|(refine y9 ?_ ?_<;>intro h)|exact y5|fail)
  all_goals try first
   |omega
   |exact i64_in (by omega) (by omega)
  refine LoopR.same (i+1) (by omega) (by omega) rfl ⟨VLe.of_eq (congrArg nI (by push_cast;omega)),trivial⟩ trivial rfl rfl (by decide)
set_option maxRecDepth 100000
set_option maxHeartbeats 2000000
theorem lower_w0 {p:List Nd} {e:Int} {i:Nat} (h:FC Tryz.prog 12 [nodes p,nI i] 0 [] (.tup [.s (.row 0 1 ([]:Cd).length),.s (.int .i64 e)]) 2 [(0,ccB 0 [])]) (c:Option Nat) (bl:Bl) (hro:bl.ro=false) (hk:bl.kind=none)
 (hc:∀ k j x,k<p.length→(ndC (p.getD k dN))[j]? =some x→bl.cells[k*4+j]? =some x∧pureS x=true):
 FC Tryz.prog 12 [.s (.slc (some (0,0)) p.length c),nI i] 1 [(0,some bl)] (.tup [.s (.slc none 0 (some 0)),.s (.int .i64 e)]) 3 [(0,some bl)]:=by
 have h:=(lower_w h c bl hro hk hc).post (L':=[(0,some bl)]) fun i bl' hi=>by
  rw[lk_cons] at hi;split at hi
  ·rename_i e;subst e;cases hi
   exact⟨bl,rfl,rfl,fun _ _ _ h=>h⟩
  ·cases hi
 refine⟨h.1,fun φ xs w a b c=>(h.2 φ xs w a b c).mono ?_⟩;rintro e w' ⟨φ',x,e1,hv,r⟩;refine⟨φ',x,e1,?_,r⟩;obtain⟨ys,e2,hy⟩:=hv;refine⟨ys,e2,?_⟩
 match ys,hy with
 |[y,z],⟨h1,h2,_⟩=>exact⟨SLe.rownil _ _ h1,h2,trivial⟩
theorem alias_c (l:List Int) (hl:l.length≤20000000000000) (haw:FC Tryz.prog 7 [] 0 [] (bV true) 0 []):FC Tryz.prog 6 [.s (chF l)] 0 [] (bV true) 0 []:=by
 obtain⟨p,hp,⟨k0,hk0,h14⟩,hsys⟩:=system_m l hl;refine alias_w l p hp.len k0 hk0 h14 hsys haw (fun i hi ho=>?_) (fun R hR=>eqI_c R R (D:=.isTrue rfl) (by omega));obtain⟨R,e,rfl|⟨h0,h1,h2⟩,hL⟩:=lower_two p hp.wfN hp.wfI i hi ho
 ·exact⟨[],e,.inl ⟨rfl,lower_w0 hL _ _ rfl rfl fun k j x hk hx=>sp_get hk hx⟩⟩
 ·exact⟨R,e,.inr ⟨h0,h1,h2,lower_w hL _ _ rfl rfl fun k j x hk hx=>sp_get hk hx⟩⟩
end Go.Proofs.YtbokilgdefkmiaaGreatDoor
