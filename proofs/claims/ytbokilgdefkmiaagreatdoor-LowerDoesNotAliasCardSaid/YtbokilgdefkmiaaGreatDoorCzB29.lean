import Derived.Test.YtbokilgdefkmiaaGreatDoorCzB28
import Derived.Test.YtbokilgdefkmiaaGreatDoorCzB23
set_option linter.unusedSimpArgs false
set_option linter.unusedVariables false
namespace Go.Proofs.YtbokilgdefkmiaaGreatDoor
open Go Ab
set_option maxRecDepth 100000
set_option maxHeartbeats 1000000
theorem u64_id {z:Int} (h1:0≤z) (h2:z<18446744073709551616):IntKind.u64.wrap z=z:=by
 simp only[IntKind.wrap,IntKind.bits,IntKind.signed,Bool.false_and,Bool.false_eq_true,if_false];exact Int.emod_eq_of_lt h1 (by simpa using h2)
section
variable {P:Program} {ops:Array Oper} {d:Bool} {acc:List Row} {os:List Oper} {o:Oper} {env:List V} {n:Nat} {L:Hp} {R:Post} {f:FuncId} {xs:Array Operand}
theorem okH_cd {n c m:Nat} {p:List Nd} {E:List Nat} {s:S} {t:Hp} (hs:okS n s=true) (h0:Nat.blt 0 n=true) (h1:Nat.blt c n=true) (h2:Nat.blt (c+1) n=true) (h:okH n t=true):okH n ((0,some (cdB p E c m s))::t)=true:=by
 show (Nat.blt 0 n&&(true&&(true&&(true&&((Nat.blt c n&&Nat.blt (c+1) n)&&(okS n s&&true)))))&&okH n t)=true;rw[hs,h0,h1,h2,h];rfl
theorem CallG.cd {p:List Nd} {E:List Nat} {C C':Cd} {s:S} (c:Nat) {args0:List V} {v0:V} (sc:FC P f args0 5 (cdL p E C s) v0 7 (cdL' p E C' s)) {args1:List V} {v:V}
 (hl0:lk L 0=some (cdB p E c C.length s)) (hl1:lk L c=ccB c C) (hs:okS 5 s=true) (hr:renS (rn [0,c,c+1,3,4] n) s=s) (h0:Nat.beq 0 c=false) (hold:oldB [0,c,c+1,3,4] n 7=true) (hal:aliB [0,c,c+1,3,4] (cdL p E C s)=true)
 (k1:args0.all (okV 5)=true) (ha:xs.toList.map (ev env)=args1) (hle:All2 VLe args1 (args0.map (renV (rn [0,c,c+1,3,4] n)))) (hw:want ops env o=some true) (hv:frcV (renV (rn [0,c,c+1,3,4] n) v0) some=some v)
 (k:RegX P ops d (pushR d o [0,c,c+1,3,4] [(0,some (cdB p E n C'.length s)),(c,none),(n,ccB n C')] acc) os (setD env o.dst v) (n+2) (puts L [(0,some (cdB p E n C'.length s)),(c,none),(n,ccB n C')]) R):CallG P ops d acc o f xs os env n L R:=by
 have hne:c≠0:=fun e=>by subst e;cases h0
 refine CallG.mo [0,c,c+1,3,4] sc k1 (okH_cd hs rfl rfl rfl (okH_op rfl rfl rfl)) ?_ hal ha hle ?_ hw hv ?_ k
 ·show (true&&true&&true&&oldB [0,c,c+1,3,4] n 7)=true
  rw[hold];rfl
 ·refine⟨⟨rfl,cdB p E c C.length s,?_,?_,fun h=>h⟩,FitP.op rfl ?_ trivial⟩
  ·show lk (res _ L) 0=_
   rw[lk_res,if_pos (by simp)];exact hl0
  ·show ({cells:=[_,_,.row c (c+1) C.length,renS (rn [0,c,c+1,3,4] n) s],ty:=72}:Bl)=_
   rw[hr];rfl
  ·show lk (res _ L) c=_
   rw[lk_res,if_pos (by simp)];exact hl1
 ·show [(0,some ({cells:=[_,_,.row n (n+1) C'.length,renS (rn [0,c,c+1,3,4] n) s],ty:=72}:Bl)),(c,none),(n,renO (rn [0,c,c+1,3,4] n) (ccB 5 C'))]=_
  rw[hr,renO_op];rfl
theorem Fin.cd {fn:Func} {p:List Nd} {E:List Nat} {C':Cd} {x:Value} {e:Exit} {M:Hp} {m:Nat} (c:Nat) {D:Cd} (hx:e=.ret∨e=.normal) (h0:lk M 0=some (cdB p E c D.length (.cst x))) (h1:lk M c=ccB c D) (hr:resV P fn env M=some (.tup [])) (hn:nodupB (List.range 5++[c,c+1])=true) (hD:D=C'):
 Fin P fn 5 .any 7 (cdL' p E C' (.cst x)) e env m M:=by
 subst hD;refine⟨hx,.tup [],[c,c+1],VLe.any _,EndOK.by hr ⟨h0,MemP.op h1 trivial⟩ rfl (okH_cd rfl rfl rfl rfl (okH_op rfl rfl rfl)) rfl hn⟩
end
theorem operator_c (p:List Nd) (E:List Nat) (C:Cd) (hC:C.length≤1000000000) (x:Value) (op:Int) (h0:0≤op) (h1:op<18446744073709551616):
 FC Tryz.prog 161 [.s (.ptr (some (0,0))),nI op] 5 (cdL p E C (.cst x)) .any 7 (cdL' p E (opr op C) (.cst x)):=by
 refine FC.walk (by kernel_rfl) Tryz.func161 rfl rfl ?_;have he:=emit_c p E C hC x
 repeat'(first|exact y0|refine y1 ?_|refine y2 ?_ ?_|(refine y8 ?_ ?_<;>intro h<;>try exact y6)|(refine wC ?_;first|(refine wF 38 ?_;refine CallG.cd 1 (he _ _ _) rfl rfl rfl rfl rfl rfl rfl rfl rfl ⟨VLe.refl _,VLe.refl _,VLe.refl _,VLe.refl _,trivial⟩ rfl rfl ?_))|refine Fin.cd 5 (.inr rfl) rfl rfl rfl rfl ?_|refine y3 ?_|refine y7 ?_ ?_|refine y4 ?_|(refine y9 ?_ ?_<;>intro h)|exact y5|fail)
 all_goals first
  |exact u64_id (by omega) (by omega)
  |(unfold opr;repeat (first|rw[if_pos (by omega)]|rw[if_neg (by omega)]);try rfl)
set_option maxRecDepth 100000
set_option maxHeartbeats 1000000
abbrev cdR (p:List Nd) (E:List Nat) (n:Nat):Hp:=[(0,some {cells:=[.frz (fun k=>ndC (p.getD k dN)) 4 p.length,.frz (fun k=>[.int .i64 ((E.getD k 0:Nat):Int)]) 1 E.length,.row 1 2 n],ty:=72,more:=true,ro:=true})]
theorem here_c (p:List Nd) (E:List Nat) (n:Nat) (hn:n≤1000000000):FC Tryz.prog 162 [.s (.ptr (some (0,0)))] 3 (cdR p E n) (nU n) 3 (cdR p E n):=by
 refine FC.walk (by kernel_rfl) Tryz.func162 rfl rfl ?_
 repeat'(first|exact y0|refine y1 ?_|refine y2 ?_ ?_|(refine y8 ?_ ?_<;>intro h<;>try exact y6)|refine y3 ?_|refine y7 ?_ ?_|refine y4 ?_|(refine y9 ?_ ?_<;>intro h)|exact y5|fail)
 all_goals try exact u64_id (by omega) (by omega)
 exact⟨.inl rfl,_,[],VLe.refl _,EndOK.by rfl ⟨rfl,trivial⟩ rfl rfl rfl rfl⟩
abbrev cdP (p:List Nd):Hp:=[(0,some {cells:=[.frz (fun k=>ndC (p.getD k dN)) 4 p.length],ty:=72,more:=true,ro:=true})]
def bufU (z:Nat) (l:List Int) (k:Nat):By:=(List.range z).map fun j=>if j<k then ((l.getD j 0)%256).toNat.toUInt8 else 0
theorem bufU_len (z:Nat) (l:List Int) (k:Nat):(bufU z l k).length=z:=by simp[bufU]
theorem bufU_zero (z:Nat) (l:List Int):bufU z l 0=List.replicate z 0:=by
 apply List.ext_getElem
 ·simp[bufU]
 ·intro j h1 h2;simp[bufU]
theorem bufU_set {z:Nat} {l:List Int} {k:Nat} (hk:k<z):(bufU z l k).set k ((l.getD k 0)%256).toNat.toUInt8=bufU z l (k+1):=by
 apply List.ext_getElem
 ·simp[bufU]
 ·intro j h1 h2
  simp only[bufU,List.length_map,List.length_range] at h2;rw[List.getElem_set];simp only[bufU,List.getElem_map,List.getElem_range];split
  ·rename_i e;subst e;rw[if_pos (Nat.lt_succ_self _)]
  ·by_cases h:j<k
   ·rw[if_pos h,if_pos (by omega)]
   ·rw[if_neg h,if_neg (by omega)]
theorem u8_id {z:Int} (h0:0≤z) (h1:z≤255):IntKind.u8.wrap z=z:=by
 simp only[IntKind.wrap,IntKind.bits,IntKind.signed,Bool.false_and,Bool.false_eq_true,if_false];exact Int.emod_eq_of_lt h0 (by show z<256;omega)
theorem byte_u8 {z:Int} (h0:0≤z) (h1:z≤255):S.int .u8 (((z%256).toNat.toUInt8.toNat:Nat):Int)=S.int .u8 z:=by
 congr 1;have:z%256=z:=Int.emod_eq_of_lt h0 (by omega);rw[this];obtain⟨n,rfl⟩:=Int.eq_ofNat_of_zero_le h0;simp;omega
theorem bufU0 (z:Nat) (l:List Int):byteS (bufU z l 0)=List.replicate z (.int .u8 0):=by rw[bufU_zero];simp[byteS]
theorem byteS_set (l:By) (k:Nat) (b:UInt8):(byteS l).set k (.int .u8 (b.toNat:Int))=byteS (l.set k b):=by unfold byteS;rw[List.map_set]
theorem buffer_c (p:List Nd) (hp:p.length≤2048) (i z:Nat) (l:List Int) (hz:(p.getD (i+1) dN).int=(z:Int)) (hz2:z≤255) (hlz:l.length≤z) (hK:(p.getD (i+2) dN).kids=(l.length:Nat)) (hl:∀ k,k<l.length→(p.getD (i+3+k) dN).int=l.getD k 0∧0≤l.getD k 0∧l.getD k 0≤255) (hle:i+3+l.length≤p.length):
 FC Tryz.prog 157 [.s (.ptr (some (0,0))),nI i] 1 (cdP p) (sV (bufB z l)) 1 (cdP p):=by
 have hsz:(Tryz.prog.types[5]).size=1:=by kernel_rfl
 refine FC.walk (by kernel_rfl) Tryz.func157 rfl rfl ?_
 repeat'(first|exact y0|refine y1 ?_|refine y2 ?_ ?_|(refine y8 ?_ ?_<;>intro h<;>try exact y6)|refine y3 ?_|refine y7 ?_ ?_|refine y4 ?_|(refine y9 ?_ ?_<;>intro h)|exact y5|fail)
 rw[hz];refine RegX.opA [.idx z,.idx z] rfl rfl ⟨rfl,rfl,Nat.le_refl _,?_,by omega⟩ ?_
 ·rw[show (Tryz.prog.types[5]).bytes=1 by kernel_rfl];omega
 repeat'(first|exact y0|refine y1 ?_|refine y2 ?_ ?_|(refine y8 ?_ ?_<;>intro h<;>try exact y6)|refine y3 ?_|refine y7 ?_ ?_|refine y4 ?_|(refine y9 ?_ ?_<;>intro h)|exact y5|fail)
 rw[hK];refine Ex.inv (σ:=Nat) (fun k=>[(26,nI k)]) (fun k=>[(0,some {cells:=[.frz (fun k=>ndC (p.getD k dN)) 4 p.length],ty:=72,more:=true,ro:=true}),(1,some {cells:=byteS (bufU z l k),ty:=5,sym:=true,flat:=true})]) (fun k=>k≤l.length) (fun k=>l.length-k) 0 rfl (fun _=>rfl) (Nat.zero_le _) ⟨VLe.refl _,trivial⟩ ⟨rfl,by rw[bufU0];rfl,trivial⟩ ?_;intro k hk;by_cases hlt:k<l.length
 ·obtain⟨h1,h2,h3⟩:=hl k hlt
  have hcat:plus 0 (times k (Tryz.prog.types[5]).size)=k:=by rw[hsz,plus_eq,times_eq,Nat.zero_add,Nat.mul_one]
  repeat'(first|exact y0|refine y1 ?_|refine y2 ?_ ?_|(refine y8 ?_ ?_<;>intro h<;>try exact y6)|refine RegX.sto [.cells (byteS (bufU z l (k+1)))] rfl rfl ⟨?_,?_⟩ rfl ?_|refine y3 ?_|refine y7 ?_ ?_|refine y4 ?_|(refine y9 ?_ ?_<;>intro h)|exact y5|fail)
  all_goals try first
   |(rw[h1];exact u8_id h2 h3)
   |(rw[hcat];show k+1≤(byteS (bufU z l k)).length;rw[byteS,List.length_map,bufU_len];omega)
   |(rw[hcat,h1,←bufU_set (by omega)];show _=(byteS (bufU z l k)).set k _;rw[←byteS_set];exact congrArg ((byteS (bufU z l k)).set k) (byte_u8 h2 h3))
  exact LoopR.same (k+1) (by omega) (by omega) rfl ⟨VLe.of_eq (congrArg nI (by push_cast;rfl)),trivial⟩ ⟨rfl,rfl,trivial⟩ rfl rfl (by decide)
 ·have hk':k=l.length:=by omega
  subst hk'
  repeat'(first|exact y0|refine y1 ?_|refine y2 ?_ ?_|(refine y8 ?_ ?_<;>intro h<;>try exact y6)|refine y3 ?_|refine y7 ?_ ?_|refine y4 ?_|(refine y9 ?_ ?_<;>intro h)|exact y5|fail)
  refine RegX.opA [.val (sV (bufU z l l.length))] rfl rfl ⟨?_,?_,rfl⟩ ?_
  ·show ((byteS (bufU z l l.length)).drop 0).take z=_
   rw[List.drop_zero,List.take_of_length_le (by rw[byteS,List.length_map,bufU_len];exact Nat.le_refl _)]
  ·exact (bufU_len _ _ _).symm
  repeat'(first|exact y0|refine y1 ?_|refine y2 ?_ ?_|(refine y8 ?_ ?_<;>intro h<;>try exact y6)|refine y3 ?_|refine y7 ?_ ?_|refine y4 ?_|(refine y9 ?_ ?_<;>intro h)|exact y5|fail)
  exact⟨.inl rfl,_,[],VLe.refl _,EndOK.by rfl ⟨rfl,trivial⟩ rfl rfl rfl rfl⟩
def LE (C:Cd) (m:Nat) (D:Cd):Prop:=D.length≤C.length+m
theorem LE.ite {C a b:Cd} {m:Nat} {p:Prop} [Decidable p] (h1:LE C m a) (h2:LE C m b):LE C m (if p then a else b):=by
 by_cases h:p
 ·rw[if_pos h];exact h1
 ·rw[if_neg h];exact h2
theorem LE.em {C D:Cd} {m:Nat} (h:LE C m D) (op n:Int) (s:By):LE C (m+1) (em D op n s):=by
 unfold LE at*;simp only[Go.Proofs.YtbokilgdefkmiaaGreatDoor.em,List.length_append,List.length_cons,List.length_nil];omega
theorem LE.up {C D:Cd} {m n:Nat} (h:LE C m D) (hn:m≤n):LE C n D:=by unfold LE at*;omega
theorem LE.me (C:Cd) (m:Nat):LE C m C:=by unfold LE;omega
theorem opr_le {C D:Cd} {m:Nat} (h:LE C m D) (op:Int):LE C (m+1) (opr op D):=by
 unfold opr
 repeat' with_reducible refine LE.ite ?_ ?_
 all_goals exact h.em _ _ _
theorem expE_le {x:Nd} {k:Fo} {C c0 c1 c2 c5 c6:Cd} {m:Nat} (h0:LE C m c0) (h1:LE C m c1) (h2:LE C m c2) (h5:LE C m c5) (h6:LE C m c6):LE C (m+1) (expE x k C c0 c1 c2 c5 c6):=by
 unfold expE
 repeat' with_reducible refine LE.ite ?_ ?_
 all_goals first
  |exact (LE.me C m).em _ _ _
  |exact h0.em _ _ _
  |exact h5.em _ _ _
  |exact h6.em _ _ _
  |exact h1.up (Nat.le_succ _)
  |exact h2.up (Nat.le_succ _)
  |exact opr_le h0 _
theorem refE_le {x:Nd} {C c0 c4:Cd} {m:Nat} (h0:LE C m c0) (h4:LE C m c4):LE C (m+1) (refE x C c0 c4):=by
 unfold refE
 repeat' with_reducible refine LE.ite ?_ ?_
 all_goals first
  |exact (LE.me C m).em _ _ _
  |exact h4.up (Nat.le_succ _)
  |exact opr_le h0 _
theorem typE_le {x:Nd} {C c0 c4:Cd} {m:Nat} (h0:LE C m c0) (h4:LE C m c4):LE C (m+3) (typE x C c0 c4):=by
 have hq:LE C (m+1) (if x.op=84 then c4 else opr 76 c0):=LE.ite (h4.up (Nat.le_succ _)) (opr_le h0 76);unfold typE;generalize (if x.op=84 then c4 else opr 76 c0)=q at*
 repeat' with_reducible refine LE.ite ?_ ?_
 ·exact ((LE.me C m).em _ _ _).up (by omega)
 ·exact (((LE.me C m).em _ _ _).em _ _ _).up (by omega)
 ·exact (((LE.me C m).em _ _ _).em _ _ _).up (by omega)
 ·exact (hq.em _ _ _).em _ _ _
theorem cod_le:∀ (t:Fo) (m:Nat) (C:Cd),LE C (3*t.size) (cod m t C):=by
 intro t
 induction t with
 |nil=>intro m C;cases m<;>exact LE.me C _
 |cons x k n ik im=>
  intro m C;have hE:=expE_le (x:=x) (k:=k) (ik 0 C) (ik 1 C) (ik 2 C) (ik 5 C) (ik 6 C)
  have hn:∀ m D,LE C (3*k.size+3) D→LE C (3*(Fo.cons x k n).size) (cod m n D):=fun m D hD=>by
   have:=im m D;unfold LE at*;simp only[Fo.size];omega
  have hs:3*(Fo.cons x k n).size=3*k.size+3+3*n.size:=by simp only[Fo.size];omega
  rw[cod_cons];split
  ·exact (refE_le (ik 0 C) (ik 4 C)).up (by omega)
  ·split
   ·exact (typE_le (ik 0 C) (ik 4 C)).up (by omega)
   ·split
    ·exact hn 0 C (LE.me C _)
    ·split
     ·exact hn 7 C (LE.me C _)
     ·split
      ·exact (ik 3 C).up (by omega)
      ·split
       ·refine hn 3 _ ?_
        split
        ·exact ((LE.me C 0).em _ _ _).up (by omega)
        ·exact hE.up (by omega)
       ·split
        ·exact hE.up (by omega)
        ·exact hn 0 _ (hE.up (by omega))
theorem exp_le (x:Nd) (k:Fo) (C:Cd):LE C (3*k.size+1) (expE x k C (cod 0 k C) (cod 1 k C) (cod 2 k C) (cod 5 k C) (cod 6 k C)):=expE_le (cod_le k 0 C) (cod_le k 1 C) (cod_le k 2 C) (cod_le k 5 C) (cod_le k 6 C)
abbrev eE (x:Nd) (k:Fo) (C:Cd):Cd:=expE x k C (cod 0 k C) (cod 1 k C) (cod 2 k C) (cod 5 k C) (cod 6 k C)
section
variable {x:Nd} {k:Fo} {C:Cd}
theorem eE_41 (h:x.op=41):eE x k C=em C 29 k.tl.hd.int k.hd.str:=by
 unfold eE expE;repeat (first|rw[if_pos (by omega)]|rw[if_neg (by omega)])
theorem eE_42 (h:x.op=42):eE x k C=em (cod 5 k C) 31 0 k.hd.str:=by
 unfold eE expE;repeat (first|rw[if_pos (by omega)]|rw[if_neg (by omega)])
theorem eE_50 (h:x.op=50):eE x k C=em C 3 0 (bufB k.hd.int.toNat k.tl.sub.ints):=by
 unfold eE expE;repeat (first|rw[if_pos (by omega)]|rw[if_neg (by omega)])
theorem eE_86 (h:x.op=86):eE x k C=em C 23 0 k.hd.str:=by
 unfold eE expE;repeat (first|rw[if_pos (by omega)]|rw[if_neg (by omega)])
end
theorem V_e {t:Fo} {c:Int} {cs:List (Bool×Int)} (h:t.V ((false,c)::cs)):∃ y ky n,t=.cons y ky n∧accB c y.op=true∧(Fo.cons y ky .nil).V [(false,c)]∧n.V cs:=by
 cases t with
 |nil=>exact h.elim
 |cons x k n=>exact⟨x,k,n,rfl,h.1.1,⟨h.1,h.2.1,trivial⟩,h.2.2⟩
theorem V_rep {k:Fo} {n:Nat} {c:Int} (h:k.V (List.replicate n (false,c))):k.V (List.replicate k.cnt (false,c)):=by
 have:=Fo.V_cnt h;rw[List.length_replicate] at this;rw[this];exact h
theorem V_args {x:Nd} {k:Fo} {c:Int} (hv:(Fo.cons x k .nil).V [(false,c)]) (h:x.op=5∨x.op=33∨(60≤x.op∧x.op≤84)∨x.op=88):k.V (List.replicate k.cnt (false,101)):=by
 have hk:k.V (slots (kindsB x.op x.kids).1):=hv.2.1
 have key:∀ n,slots (kindsB x.op x.kids).1=List.replicate n (false,101)→k.V (List.replicate k.cnt (false,101)):=fun n hn=>V_rep (n:=n) (hn▸hk)
 have e7s:∀ m,slots (List.take m e7)=List.replicate (min m 7) (false,101):=fun m=>by
  rcases Nat.lt_or_ge m 8 with h|h
  ·rcases (by omega:m=0∨m=1∨m=2∨m=3∨m=4∨m=5∨m=6∨m=7) with rfl|rfl|rfl|rfl|rfl|rfl|rfl|rfl<;>rfl
  ·rw[List.take_of_length_le (show e7.length≤m by show 7≤m;omega),Nat.min_eq_right (by omega)];rfl
 rcases h with h|h|h|h
 ·rw[h] at key
  by_cases hx:x.kids<0∨7<x.kids
  ·refine key 0 ?_
   unfold kindsB;rw[if_pos rfl,if_pos hx];rfl
  ·refine key (min x.kids.toNat 7) ?_
   unfold kindsB;rw[if_pos rfl,if_neg hx];exact e7s _
 ·rw[h] at key
  by_cases hx:x.kids<0∨1<x.kids
  ·refine key 0 ?_
   unfold kindsB;rw[if_neg (by decide),if_pos rfl,if_pos hx];rfl
  ·refine key (min x.kids.toNat 7) ?_
   unfold kindsB;rw[if_neg (by decide),if_pos rfl,if_neg hx];exact e7s _
 ·rcases (by omega:(x.op=60∨x.op=61∨x.op=62∨x.op=63∨x.op=64∨x.op=65∨x.op=66∨x.op=67∨x.op=68∨x.op=69∨x.op=70∨x.op=71∨x.op=72∨x.op=73∨x.op=74∨x.op=75∨x.op=76)∨(x.op=77∨x.op=78∨x.op=79∨x.op=80∨x.op=81∨x.op=82∨x.op=83∨x.op=84)) with h|h
  ·rcases h with h|h|h|h|h|h|h|h|h|h|h|h|h|h|h|h|h<;>(rw[h] at key;exact key 2 rfl)
  ·rcases h with h|h|h|h|h|h|h|h<;>(rw[h] at key;exact key 1 rfl)
 ·rw[h] at key;exact key 3 rfl
theorem acc_pac {op:Int} (h:accB 80 op=true) (h3: ¬op=3):isExprB op=true:=by
 unfold accB at h
 repeat (first|rw[if_pos (by decide)] at h|rw[if_neg (by decide)] at h)
 unfold isExprB
 have:isDataB op=true:=by simpa [h3] using h
 simp[this]
theorem acc_tar {op:Int} (h:accB 116 op=true):op=3∨op=6∨op=7∨op=76∨op=84:=by
 unfold accB at h
 repeat (first|rw[if_pos (by decide)] at h|rw[if_neg (by decide)] at h)
 simp only[Bool.or_eq_true,decide_eq_true_eq] at h;omega
theorem leaf_ints {p:List Nd}:∀ (t:Fo) (n j:Nat),t.At p j→t.V (List.replicate n (false,73))→t.ints.length=n∧t.size=n∧∀ k,k<n→(p.getD (j+k) dN).int=t.ints.getD k 0
 | .nil,n,j,_,h=>by
   cases n with
   |zero=>exact⟨rfl,rfl,fun k hk=>absurd hk (Nat.not_lt_zero _)⟩
   |succ n=>exact h.elim
 | .cons x k t,n,j,ha,h=>by
   cases n with
   |zero=>exact absurd h (by simp[Fo.V])
   |succ n=>
    rw[List.replicate_succ] at h;obtain⟨y,m,e,h1,h2⟩:=V_leaf (by decide) h;cases e;have ha4:=ha.2.2.2;simp only[Fo.size] at ha4;obtain⟨i1,i2,i3⟩:=leaf_ints t n (j+1) ha4 h1;refine⟨by simp only[Fo.ints,List.length_cons,i1],by simp only[Fo.size,i2];omega,fun q hq=>?_⟩
    cases q with
    |zero=>rw[Nat.add_zero,At.get ha];rfl
    |succ q=>
     have:=i3 q (by omega);rw[show j+(q+1)=j+1+q by omega,this];rfl
set_option maxRecDepth 100000
set_option maxHeartbeats 1000000
structure NOK (p:List Nd):Prop where
 nn:∀ i,0≤(p.getD i dN).int
 buf:∀ i,i<p.length→(p.getD i dN).op=50→(p.getD (i+1) dN).int≤255∧(p.getD (i+2) dN).kids≤(p.getD (i+1) dN).int∧∀ j:Nat,(j:Int)<(p.getD (i+2) dN).kids→(p.getD (i+3+j) dN).int≤255
 pac:∀ i,i<p.length→(p.getD i dN).op=51→(p.getD (i+1) dN).int≤64
def EX (p:List Nd) (E:List Nat) (N:Nat):Prop:=∀ (x:Nd) (k:Fo) (i:Nat) (c:Int) (C:Cd) (xv:Value),k.size<N→(Fo.cons x k .nil).At p i→(Fo.cons x k .nil).V [(false,c)]→isExprB x.op=true→isCell xv=true→C.length+3*k.size≤900000000→
 FC Tryz.prog 97 [.s (.ptr (some (0,0))),nI i] 5 (cdL p E C (.cst xv)) .any 7 (cdL' p E (eE x k C) (.cst xv))
theorem operands_c (p:List Nd) (hp:p.length≤2048) (E:List Nat) (hE:EOK p E) (N:Nat) (ih:EX p E N) (x:Nd) (k:Fo) (i:Nat) (C:Cd) (xv:Value) (hx:isCell xv=true) (hN:k.size≤N) (ha:(Fo.cons x k .nil).At p i) (hv:k.V (List.replicate k.cnt (false,101))) (hC:C.length+3*k.size≤900000000):
 FC Tryz.prog 156 [.s (.ptr (some (0,0))),nI i] 5 (cdL p E C (.cst xv)) .any 7 (cdL' p E (cod 0 k C) (.cst xv)):=by
 have hi:=At.lt ha;have hei:=hE.get ha;have hel:=hE.len;have hsz:=At.size_le (Nat.le_of_lt hi) ha;simp only[Fo.size] at hsz;have hka:=ha.2.2.1;refine FC.walk (by kernel_rfl) Tryz.func156 rfl rfl ?_
 repeat'(first|refine Ex.canon [0,1,2,3,4,1,2] 26 [(0,.s (.ptr (some (0,0)))),(1,nI i),(4,nI (i+1))] [(0,some (cdB p E 5 C.length (.cst xv))),(5,ccB 5 C)] rfl rfl ⟨VLe.refl _,VLe.refl _,VLe.refl _,trivial⟩ ⟨rfl,MemP.op rfl trivial⟩ ?_ ?_|exact y0|refine y1 ?_|refine y2 ?_ ?_|(refine y8 ?_ ?_<;>intro h<;>try exact y6)|refine y3 ?_|refine y7 ?_ ?_|refine y4 ?_|(refine y9 ?_ ?_<;>intro h)|exact y5|fail)
 ·(show okSt _ _ _ [_,(_,opB _ _ _ (List.flatMap insC _))]=true;generalize List.flatMap insC _=cg;cases cg<;>rfl)
 refine Ex.inv (σ:=Fo×Nat×Cd) (fun q=>[(4,nI q.2.1)]) (fun q=>[(0,some (cdB p E 5 q.2.2.length (.cst xv))),(5,ccB 5 q.2.2)])
  (fun q=>q.1.At p q.2.1∧q.1.V (List.replicate q.1.cnt (false,101))∧(i+1≤q.2.1∧q.2.1+q.1.size=i+1+k.size)∧q.2.2.length+3*q.1.size≤900000000∧cod 0 q.1 q.2.2=cod 0 k C) (fun q=>q.1.size) (k,i+1,C) rfl (fun _=>rfl) ⟨hka,hv,⟨Nat.le_refl _,rfl⟩,hC,rfl⟩ ⟨VLe.refl _,trivial⟩ ⟨rfl,SubP.op rfl trivial⟩ ?_
 rintro⟨u,cur,D⟩ ⟨t1,t2,⟨t3,t4⟩,t5,t6⟩;simp only at t1 t2 t3 t4 t5 t6 ⊢
 cases u with
 |nil=>
  simp only[Fo.size] at t4
  repeat'(first|exact y0|refine y1 ?_|refine y2 ?_ ?_|(refine y8 ?_ ?_<;>intro h<;>try exact y6)|refine Fin.cd 5 (.inr rfl) rfl rfl rfl rfl t6|refine y3 ?_|refine y7 ?_ ?_|refine y4 ?_|(refine y9 ?_ ?_<;>intro h)|exact y5|fail)
 |cons y ky n=>
  simp only[Fo.size] at t4 t5;have hcl:=At.lt t1;have hec:=hE.get t1;rw[Fo.cnt,List.replicate_succ] at t2;have hev:=ih y ky cur 101 D xv (by omega) ⟨t1.1,t1.2.1,t1.2.2.1,trivial⟩ ⟨t2.1,t2.2.1,trivial⟩ t2.1.1 hx (by omega);have hle:(eE y ky D).length≤D.length+(3*ky.size+1):=exp_le y ky D;have e0:cod 0 (.cons y ky n) D=cod 0 n (eE y ky D):=rfl;rw[e0] at t6
  repeat'(first|exact y0|refine y1 ?_|refine y2 ?_ ?_|(refine y8 ?_ ?_<;>intro h<;>try exact y6)|(refine wC ?_;first|(refine wF 97 ?_;refine CallG.cd 5 hev rfl rfl rfl rfl rfl rfl rfl rfl rfl ⟨VLe.refl _,VLe.refl _,trivial⟩ rfl rfl ?_))|refine y3 ?_|refine y7 ?_ ?_|refine y4 ?_|(refine y9 ?_ ?_<;>intro h)|exact y5|fail)
  all_goals try omega
  refine LoopR.move (n,cur+1+ky.size,eE y ky D) ⟨t1.2.2.2,t2.2.2,⟨by simp only;omega,by simp only;omega⟩,by simp only;omega,t6⟩ (by simp only[Fo.size];omega) [0,1,2,3,4,7,8] rfl ?_ ?_ ?_
  ·repeat' (first|exact VLe.refl _|exact VLe.any _|exact True.intro|exact VLe.of_eq (congrArg nI (by rw[hec]))|refine⟨?_,?_⟩)
  ·exact⟨rfl,MemP.op rfl trivial⟩
  ·(show okSt _ _ _ [_,(_,opB _ _ _ (List.flatMap insC _))]=true;generalize List.flatMap insC _=cg;cases cg<;>rfl)
set_option maxRecDepth 100000
set_option maxHeartbeats 1000000
theorem reference_c (p:List Nd) (hp:p.length≤2048) (E:List Nat) (hE:EOK p E) (N:Nat) (ih:EX p E N) (x:Nd) (k:Fo) (i:Nat) (C:Cd) (xv:Value) (hx:isCell xv=true) (hN:k.size<N) (ha:(Fo.cons x k .nil).At p i) (hv:(Fo.cons x k .nil).V [(false,116)]) (hC:C.length+3*k.size≤900000000):
 FC Tryz.prog 159 [.s (.ptr (some (0,0))),nI i] 5 (cdL p E C (.cst xv)) .any 7 (cdL' p E (refE x C (cod 0 k C) (cod 4 k C)) (.cst xv)):=by
 have hi:=At.lt ha;have hcx:=At.get ha;have htar:=acc_tar hv.1.1;have he:=emit_c p E C (by omega) xv;subst hcx;refine FC.walk (by kernel_rfl) Tryz.func159 rfl rfl ?_;by_cases h84:(p.getD i dN).op=84
 ·have hk:=hv.2.1
  rw[h84] at hk;change k.V [(false,101)] at hk;obtain⟨y,ky,n,rfl,q1,q2,q3⟩:=V_e hk;have:=V_nil q3;subst this;simp only[Fo.size] at hN hC;have hev:=ih y ky (i+1) 101 C xv (by omega) ⟨ha.2.2.1.1,ha.2.2.1.2.1,ha.2.2.1.2.2.1,trivial⟩ q2 q1 hx (by omega)
  repeat'(first|exact y0|refine y1 ?_|refine y2 ?_ ?_|(refine y8 ?_ ?_<;>intro h<;>try exact y6)|(refine wC ?_;first|(refine wF 97 ?_;refine CallG.cd 1 hev rfl rfl rfl rfl rfl rfl rfl rfl rfl ⟨VLe.refl _,VLe.refl _,trivial⟩ rfl rfl ?_))|refine Fin.cd 6 (.inr rfl) rfl rfl rfl rfl ?_|refine y3 ?_|refine y7 ?_ ?_|refine y4 ?_|(refine y9 ?_ ?_<;>intro h)|exact y5|fail)
  all_goals (unfold refE;repeat (first|rw[if_pos (by omega)]|rw[if_neg (by omega)]);try rfl)
 ·by_cases h76:(p.getD i dN).op=76
  ·have hev:=ih (p.getD i dN) k i 116 C xv hN ha hv (by rw[h76];rfl) hx hC
   repeat'(first|exact y0|refine y1 ?_|refine y2 ?_ ?_|(refine y8 ?_ ?_<;>intro h<;>try exact y6)|(refine wC ?_;first|(refine wF 97 ?_;refine CallG.cd 1 hev rfl rfl rfl rfl rfl rfl rfl rfl rfl ⟨VLe.refl _,VLe.refl _,trivial⟩ rfl rfl ?_))|refine Fin.cd 6 (.inr rfl) rfl rfl rfl rfl ?_|refine y3 ?_|refine y7 ?_ ?_|refine y4 ?_|(refine y9 ?_ ?_<;>intro h)|exact y5|fail)
   all_goals (unfold refE eE expE;rw[h76];repeat (first|rw[if_pos (by omega)]|rw[if_neg (by omega)]);try rfl)
  ·skip
   repeat'(first|exact y0|refine y1 ?_|refine y2 ?_ ?_|(refine y8 ?_ ?_<;>intro h<;>try exact y6)|(refine wC ?_;first|(refine wF 38 ?_;refine CallG.cd 1 (he _ _ _) rfl rfl rfl rfl rfl rfl rfl rfl rfl ⟨VLe.refl _,VLe.refl _,VLe.refl _,VLe.refl _,trivial⟩ rfl rfl ?_))|refine Fin.cd 6 (.inr rfl) rfl rfl rfl rfl ?_|refine y3 ?_|refine y7 ?_ ?_|refine y4 ?_|(refine y9 ?_ ?_<;>intro h)|exact y5|fail)
   all_goals (unfold refE;repeat (first|rw[if_pos (by omega)]|rw[if_neg (by omega)]);try rfl)
theorem typeOf_c (p:List Nd) (hp:p.length≤2048) (E:List Nat) (hE:EOK p E) (N:Nat) (ih:EX p E N) (x:Nd) (k:Fo) (i:Nat) (C:Cd) (xv:Value) (hx:isCell xv=true) (hN:k.size<N) (ha:(Fo.cons x k .nil).At p i) (hv:(Fo.cons x k .nil).V [(false,116)]) (hC:C.length+3*k.size≤900000000):
 FC Tryz.prog 160 [.s (.ptr (some (0,0))),nI i] 5 (cdL p E C (.cst xv)) .any 7 (cdL' p E (typE x C (cod 0 k C) (cod 4 k C)) (.cst xv)):=by
 have hi:=At.lt ha;have hcx:=At.get ha;have htar:=acc_tar hv.1.1
 have hev:=fun h=>ih x k i 116 C xv hN ha hv h hx hC
 have hrf:=reference_c p hp E hE N ih x k i C xv hx hN ha hv hC;have hle:(eE x k C).length≤C.length+(3*k.size+1):=exp_le x k C;have hlr:(refE x C (cod 0 k C) (cod 4 k C)).length≤C.length+(3*k.size+1):=refE_le (cod_le k 0 C) (cod_le k 4 C);have he:=emit_c p E C (by omega) xv;have he1:=emit_c p E (eE x k C) (by omega) xv;have he2:=emit_c p E (refE x C (cod 0 k C) (cod 4 k C)) (by omega) xv;have he3:=emit_c p E (em (refE x C (cod 0 k C) (cod 4 k C)) 17 0 []) (by rw[em_length];omega) xv;subst hcx;refine FC.walk (by kernel_rfl) Tryz.func160 rfl rfl ?_;by_cases h6:(p.getD i dN).op=6∨(p.getD i dN).op=7
 ·have hev:=hev (by rcases h6 with h|h<;>rw[h]<;>rfl)
  repeat'(first|exact y0|refine y1 ?_|refine y2 ?_ ?_|(refine y8 ?_ ?_<;>intro h<;>try exact y6)|(refine wC ?_;first|(refine wF 97 ?_;refine CallG.cd 1 hev rfl rfl rfl rfl rfl rfl rfl rfl rfl ⟨VLe.refl _,VLe.refl _,trivial⟩ rfl rfl ?_)|(refine wF 38 ?_;refine CallG.cd 5 (he1 _ _ _) rfl rfl rfl rfl rfl rfl rfl rfl rfl ⟨VLe.refl _,VLe.refl _,VLe.refl _,VLe.refl _,trivial⟩ rfl rfl ?_))|refine Fin.cd 7 (.inr rfl) rfl rfl rfl rfl ?_|refine y3 ?_|refine y7 ?_ ?_|refine y4 ?_|(refine y9 ?_ ?_<;>intro h)|exact y5|fail)
  all_goals (unfold typE eE expE;repeat (first|rw[if_pos (by omega)]|rw[if_neg (by omega)]);try rfl)
 ·skip
  repeat'(first|exact y0|refine y1 ?_|refine y2 ?_ ?_|(refine y8 ?_ ?_<;>intro h<;>try exact y6)|(refine wC ?_;first|(refine wF 38 ?_;refine CallG.cd 1 (he _ _ _) rfl rfl rfl rfl rfl rfl rfl rfl rfl ⟨VLe.refl _,VLe.refl _,VLe.refl _,VLe.refl _,trivial⟩ rfl rfl ?_)|(refine wF 159 ?_;refine CallG.cd 1 hrf rfl rfl rfl rfl rfl rfl rfl rfl rfl ⟨VLe.refl _,VLe.refl _,trivial⟩ rfl rfl ?_)|(refine wF 38 ?_;refine CallG.cd 5 (he2 17 _ _) rfl rfl rfl rfl rfl rfl rfl rfl rfl ⟨VLe.refl _,VLe.refl _,VLe.refl _,VLe.refl _,trivial⟩ rfl rfl ?_)|(refine wF 38 ?_;refine CallG.cd 7 (he3 21 _ _) rfl rfl rfl rfl rfl rfl rfl rfl rfl ⟨VLe.refl _,VLe.refl _,VLe.refl _,VLe.refl _,trivial⟩ rfl rfl ?_))|refine Fin.cd 5 (.inl rfl) rfl rfl rfl rfl ?_|refine Fin.cd 9 (.inr rfl) rfl rfl rfl rfl ?_|refine y3 ?_|refine y7 ?_ ?_|refine y4 ?_|(refine y9 ?_ ?_<;>intro h)|exact y5|fail)
  all_goals (unfold typE;repeat (first|rw[if_pos (by omega)]|rw[if_neg (by omega)]);try rfl)
  all_goals (unfold refE;repeat (first|rw[if_pos (by omega)]|rw[if_neg (by omega)]);try rfl)
set_option maxRecDepth 100000
set_option maxHeartbeats 1000000
def elE (x:Nd) (k:Fo) (C:Cd):Cd:=if x.op=3 then em C 4 0 x.str else eE x k C
theorem el_le (x:Nd) (k:Fo) (C:Cd):(elE x k C).length≤C.length+(3*k.size+1):=by
 unfold elE;split
 ·rw[em_length];omega
 ·exact exp_le x k C
theorem m256 {a b:Int} (h0:0≤a) (h1:a≤64) (g0:0≤b) (g1:b≤2048):IntKind.u64.wrap (256*a)=256*a∧IntKind.u64.wrap (256*a+b)=256*a+b:=⟨u64_id (by omega) (by omega),u64_id (by omega) (by omega)⟩
theorem pack_c (p:List Nd) (hp:p.length≤2048) (hO:NOK p) (E:List Nat) (hE:EOK p E) (N:Nat) (ih:EX p E N) (x:Nd) (k:Fo) (i:Nat) (c:Int) (C:Cd) (xv:Value) (hx:isCell xv=true) (hN:k.size≤N) (ha:(Fo.cons x k .nil).At p i) (hv:(Fo.cons x k .nil).V [(false,c)]) (ho:x.op=51) (hC:C.length+3*k.size≤900000000):
 FC Tryz.prog 158 [.s (.ptr (some (0,0))),nI i] 5 (cdL p E C (.cst xv)) .any 7 (cdL' p E (em (cod 6 k C) 5 (256*k.hd.int+k.tl.hd.kids) []) (.cst xv)):=by
 have hi:=At.lt ha;have hcx:=At.get ha;have hk:=hv.2.1;rw[ho] at hk;change k.V [(false,105),(true,80)] at hk;obtain⟨y,n,rfl,q1,q2⟩:=V_leaf (by decide) hk;obtain⟨b,bl,n2,rfl,g1,g2,g3⟩:=V_blk q1;have:=V_nil g1;subst this;have hpc:=hO.pac i hi (by rw[hcx];exact ho);have hp0:=hO.nn (i+1);have ha1:=ha.2.2.1;have ha2:=ha1.2.2.2;simp only[Fo.size,Nat.add_zero] at ha2 hN hC;have hy:=At.get ha1;have hb:=At.get ha2
 obtain⟨j,hj⟩:∃ j:Nat,j=i+2:=⟨_,rfl⟩
 have hei:E.getD j 0=i+3+bl.size:=by have:=hE.get ha2;rw[hj,show i+2=i+1+1 from rfl,this]
 have hbk:(p.getD j dN).kids=(bl.cnt:Nat):=by rw[hj,hb];exact ha2.2.1
 have hel:=hE.len
 have hb0:0≤(p.getD j dN).kids:=by rw[hbk];omega
 have hsz:=At.size_le (Nat.le_of_lt (At.lt ha2)) ha2;simp only[Fo.size] at hsz;have hcn:=Fo.cnt_le bl
 have hb1:(p.getD j dN).kids≤2048:=by rw[hbk];omega
 have hba:=ha2.2.2.1;have e6:cod 6 (.cons y .nil (.cons b bl .nil)) C=cod 3 bl C:=rfl;rw[e6]
 have eh:256*(Fo.cons y Fo.nil (Fo.cons b bl Fo.nil)).hd.int+(Fo.cons y Fo.nil (Fo.cons b bl Fo.nil)).tl.hd.kids=256*(p.getD (i+1) dN).int+(p.getD j dN).kids:=by rw[hj,hy,hb];rfl
 rw[eh];refine FC.walk (by kernel_rfl) Tryz.func158 rfl rfl ?_
 repeat'(first|refine Ex.canon [0,1,2,3,4,1,2] 70 [(0,.s (.ptr (some (0,0)))),(1,nI i),(4,nI j),(5,nI (i+3))] [(0,some (cdB p E 5 C.length (.cst xv))),(5,ccB 5 C)] rfl rfl ⟨VLe.refl _,VLe.refl _,VLe.of_eq (congrArg nI (by rw[hj];rfl)),VLe.refl _,trivial⟩ ⟨rfl,MemP.op rfl trivial⟩ ?_ ?_|exact y0|refine y1 ?_|refine y2 ?_ ?_|(refine y8 ?_ ?_<;>intro h<;>try exact y6)|refine y3 ?_|refine y7 ?_ ?_|refine y4 ?_|(refine y9 ?_ ?_<;>intro h)|exact y5|fail)
 ·(show okSt _ _ _ [_,(_,opB _ _ _ (List.flatMap insC _))]=true;generalize List.flatMap insC _=cg;cases cg<;>rfl)
 refine Ex.inv (σ:=Fo×Nat×Cd) (fun q=>[(5,nI q.2.1)]) (fun q=>[(0,some (cdB p E 5 q.2.2.length (.cst xv))),(5,ccB 5 q.2.2)])
  (fun q=>q.1.At p q.2.1∧q.1.V (List.replicate q.1.cnt (false,80))∧(i+3≤q.2.1∧q.2.1+q.1.size=i+3+bl.size)∧q.2.2.length+3*q.1.size≤900000000∧cod 3 q.1 q.2.2=cod 3 bl C) (fun q=>q.1.size) (bl,i+3,C) rfl (fun _=>rfl) ⟨hba,g3,⟨Nat.le_refl _,rfl⟩,by simp only;omega,rfl⟩ ⟨VLe.refl _,trivial⟩ ⟨rfl,SubP.op rfl trivial⟩ ?_
 rintro⟨u,cur,D⟩ ⟨t1,t2,⟨t3,t4⟩,t5,t6⟩;simp only at t1 t2 t3 t4 t5 t6 ⊢
 cases u with
 |nil=>
  simp only[Fo.size] at t4 t5;have he:=emit_c p E D (by omega) xv;have t6:D=cod 3 bl C:=t6;rw[←t6]
  repeat'(first|exact y0|refine y1 ?_|refine y2 ?_ ?_|(refine y8 ?_ ?_<;>intro h<;>try exact y6)|(refine wC ?_;first|(refine wF 38 ?_;refine CallG.cd 5 (he _ _ _) rfl rfl rfl rfl rfl rfl rfl rfl rfl ⟨VLe.refl _,VLe.refl _,VLe.refl _,VLe.refl _,trivial⟩ rfl rfl ?_))|refine Fin.cd 7 (.inr rfl) rfl rfl rfl rfl ?_|refine y3 ?_|refine y7 ?_ ?_|refine y4 ?_|(refine y9 ?_ ?_<;>intro h)|exact y5|fail)
  all_goals first
   |exact u64_id (by omega) (by omega)
   |exact (m256 hp0 hpc hb0 hb1).1
   |exact (m256 hp0 hpc hb0 hb1).2
   |rfl
 |cons y ky n=>
  simp only[Fo.size] at t4 t5;have hcl:=At.lt t1;have hcy:=At.get t1;have hec:=hE.get t1;rw[Fo.cnt,List.replicate_succ] at t2;have hle:=el_le y ky D;have e0:cod 3 (.cons y ky n) D=cod 3 n (elE y ky D):=rfl;rw[e0] at t6;have he:=emit_c p E D (by omega) xv;by_cases h3:y.op=3
  ·have e1:elE y ky D=em D 4 0 y.str:=by unfold elE;rw[if_pos h3]
   rw[e1] at t6 hle;subst hcy
   repeat'(first|exact y0|refine y1 ?_|refine y2 ?_ ?_|(refine y8 ?_ ?_<;>intro h<;>try exact y6)|(refine wC ?_;first|(refine wF 38 ?_;refine CallG.cd 5 (he _ _ _) rfl rfl rfl rfl rfl rfl rfl rfl rfl ⟨VLe.refl _,VLe.refl _,VLe.refl _,VLe.refl _,trivial⟩ rfl rfl ?_))|refine y3 ?_|refine y7 ?_ ?_|refine y4 ?_|(refine y9 ?_ ?_<;>intro h)|exact y5|fail)
   all_goals try omega
   refine LoopR.move (n,cur+1+ky.size,em D 4 0 (p.getD cur dN).str) ⟨t1.2.2.2,t2.2.2,⟨by simp only;omega,by simp only;omega⟩,by simp only;omega,t6⟩ (by simp only[Fo.size];omega) [0,1,2,3,4,7,8] rfl ?_ ?_ ?_
   ·repeat' (first|exact VLe.refl _|exact VLe.any _|exact True.intro|exact VLe.of_eq (congrArg nI (by rw[hec]))|refine⟨?_,?_⟩)
   ·exact⟨rfl,MemP.op rfl trivial⟩
   ·(show okSt _ _ _ [_,(_,opB _ _ _ (List.flatMap insC _))]=true;generalize List.flatMap insC _=cg;cases cg<;>rfl)
  ·have e1:elE y ky D=eE y ky D:=by unfold elE;rw[if_neg h3]
   rw[e1] at t6 hle;have hev:=ih y ky cur 80 D xv (by omega) ⟨t1.1,t1.2.1,t1.2.2.1,trivial⟩ ⟨t2.1,t2.2.1,trivial⟩ (acc_pac t2.1.1 h3) hx (by omega);subst hcy
   repeat'(first|exact y0|refine y1 ?_|refine y2 ?_ ?_|(refine y8 ?_ ?_<;>intro h<;>try exact y6)|(refine wC ?_;first|(refine wF 97 ?_;refine CallG.cd 5 hev rfl rfl rfl rfl rfl rfl rfl rfl rfl ⟨VLe.refl _,VLe.refl _,trivial⟩ rfl rfl ?_))|refine y3 ?_|refine y7 ?_ ?_|refine y4 ?_|(refine y9 ?_ ?_<;>intro h)|exact y5|fail)
   all_goals try omega
   refine LoopR.move (n,cur+1+ky.size,eE (p.getD cur dN) ky D) ⟨t1.2.2.2,t2.2.2,⟨by simp only;omega,by simp only;omega⟩,by simp only;omega,t6⟩ (by simp only[Fo.size];omega) [0,1,2,3,4,7,8] rfl ?_ ?_ ?_
   ·repeat' (first|exact VLe.refl _|exact VLe.any _|exact True.intro|exact VLe.of_eq (congrArg nI (by rw[hec]))|refine⟨?_,?_⟩)
   ·exact⟨rfl,MemP.op rfl trivial⟩
   ·(show okSt _ _ _ [_,(_,opB _ _ _ (List.flatMap insC _))]=true;generalize List.flatMap insC _=cg;cases cg<;>rfl)
theorem exp_c (p:List Nd) (hp:p.length≤2048) (hO:NOK p) (E:List Nat) (hE:EOK p E) (N:Nat) (ih:EX p E N):EX p E (N+1):=by
 intro x k i c C xv hN ha hv hex hx hC;have hi:=At.lt ha;have hcx:=At.get ha;have hsz:=At.size_le (Nat.le_of_lt hi) ha;simp only[Fo.size] at hsz;have hcn:=Fo.cnt_le k
 have hkd:(p.getD i dN).kids=(k.cnt:Nat):=by rw[hcx];exact ha.2.1
 have he:=emit_c p E C (by omega) xv;unfold isExprB isDataB at hex;simp only[Bool.or_eq_true,Bool.and_eq_true,decide_eq_true_eq] at hex;by_cases h5:x.op=5∨(60≤x.op∧x.op≤84)∨x.op=88
 ·have hop:=operands_c p hp E hE N ih x k i C xv hx (by omega) ha (V_args hv (by omega)) hC
  have hl0:(cod 0 k C).length≤C.length+3*k.size:=cod_le k 0 C;have he1:=emit_c p E (cod 0 k C) (by omega) xv;have hor:=operator_c p E (cod 0 k C) (by omega) xv x.op (by omega) (by omega);subst hcx;refine FC.walk (by kernel_rfl) Tryz.func97 rfl rfl ?_
  repeat'(first|exact y0|refine y1 ?_|refine y2 ?_ ?_|(refine y8 ?_ ?_<;>intro h<;>try exact y6)|(refine wC ?_;first|(refine wF 156 ?_;refine CallG.cd 1 hop rfl rfl rfl rfl rfl rfl rfl rfl rfl ⟨VLe.refl _,VLe.refl _,trivial⟩ rfl rfl ?_)|(refine wF 38 ?_;refine CallG.cd 6 (he1 _ _ _) rfl rfl rfl rfl rfl rfl rfl rfl rfl ⟨VLe.refl _,VLe.refl _,VLe.refl _,VLe.refl _,trivial⟩ rfl rfl ?_)|(refine wF 161 ?_;refine CallG.cd 6 hor rfl rfl rfl rfl rfl rfl rfl rfl rfl ⟨VLe.refl _,VLe.refl _,trivial⟩ rfl rfl ?_))|refine Fin.cd 8 (.inr rfl) rfl rfl rfl rfl ?_|refine y3 ?_|refine y7 ?_ ?_|refine y4 ?_|(refine y9 ?_ ?_<;>intro h)|exact y5|fail)
  all_goals try (rw[hkd];exact u64_id (by omega) (by omega))
  all_goals (unfold eE expE;repeat (first|rw[if_pos (by omega)]|rw[if_neg (by omega)]);try rfl)
 ·have ha1:=ha.2.2.1
  have hk:k.V (slots (kindsB x.op x.kids).1):=hv.2.1;by_cases h42:x.op=42
  ·rw[h42] at hk
   change k.V [(false,110),(false,101)] at hk;obtain⟨y,n,rfl,q1,_⟩:=V_leaf (by decide) hk;obtain⟨z,kz,n2,rfl,g1,g2,g3⟩:=V_e q1;have:=V_nil g3;subst this;have hy:=At.get ha1;have ha2:=ha1.2.2.2;simp only[Fo.size,Nat.add_zero] at ha2 hN hC hsz;have hev:=ih z kz (i+2) 101 C xv (by omega) ha2 g2 g1 hx (by omega);have hle:(eE z kz C).length≤C.length+(3*kz.size+1):=exp_le z kz C;have he1:=emit_c p E (eE z kz C) (by omega) xv;have hg:=hcx;subst hcx;refine FC.walk (by kernel_rfl) Tryz.func97 rfl rfl ?_
   repeat'(first|exact y0|refine y1 ?_|refine y2 ?_ ?_|(refine y8 ?_ ?_<;>intro h<;>try exact y6)|(refine wC ?_;first|(refine wF 97 ?_;refine CallG.cd 1 hev rfl rfl rfl rfl rfl rfl rfl rfl rfl ⟨VLe.refl _,VLe.refl _,trivial⟩ rfl rfl ?_)|(refine wF 38 ?_;refine CallG.cd 6 (he1 _ _ _) rfl rfl rfl rfl rfl rfl rfl rfl rfl ⟨VLe.refl _,VLe.refl _,VLe.refl _,VLe.refl _,trivial⟩ rfl rfl ?_))|refine Fin.cd 8 (.inr rfl) rfl rfl rfl rfl ?_|refine y3 ?_|refine y7 ?_ ?_|refine y4 ?_|(refine y9 ?_ ?_<;>intro h)|exact y5|fail)
   all_goals (rw[eE_42 h42];subst hy;rfl)
  ·by_cases h50:x.op=50
   ·rw[h50] at hk
    change k.V [(false,105),(true,73)] at hk;obtain⟨y,n,rfl,q1,_⟩:=V_leaf (by decide) hk;obtain⟨b,bl,n2,rfl,g1,g2,g3⟩:=V_blk q1;have:=V_nil g1;subst this;have hy:=At.get ha1;have ha2:=ha1.2.2.2;simp only[Fo.size,Nat.add_zero] at ha2 hN hC hsz;have hb:=At.get ha2;obtain⟨l1,l2,l3⟩:=leaf_ints bl bl.cnt (i+3) ha2.2.2.1 g3;obtain⟨b1,b2,b3⟩:=hO.buf i hi (by rw[hcx];exact h50);have b0:=hO.nn (i+1)
    have hbk:(p.getD (i+2) dN).kids=(bl.ints.length:Nat):=by rw[l1];exact (congrArg Nd.kids hb).trans ha2.2.1
    have hyi:y.int=(p.getD (i+1) dN).int:=congrArg Nd.int hy.symm;obtain⟨z,hz⟩:=Int.eq_ofNat_of_zero_le b0;have hbf:=buffer_c p hp i z bl.ints hz (by omega) (by omega) hbk (fun j hj=>⟨l3 j (by omega),by rw[←l3 j (by omega)];exact hO.nn _,by rw[←l3 j (by omega)];exact b3 j (by omega)⟩) (by omega)
    have hzn:y.int.toNat=z:=by rw[hyi,hz];rfl
    subst hcx;refine FC.walk (by kernel_rfl) Tryz.func97 rfl rfl ?_
    repeat'(first|exact y0|refine y1 ?_|refine y2 ?_ ?_|(refine y8 ?_ ?_<;>intro h<;>try exact y6)|(refine wC ?_;first|(refine wF 157 ?_;refine CallG.mv [0] 0 hbf rfl rfl ⟨VLe.refl _,VLe.refl _,trivial⟩ rfl rfl (fun φ w b=>BlAt.view 1 rfl) rfl ⟨⟨rfl,_,rfl,rfl,fun h=>h⟩,trivial⟩ rfl rfl rfl rfl ?_)|(refine wF 38 ?_;refine CallG.cd 1 (he _ _ _) rfl rfl rfl rfl rfl rfl rfl rfl rfl ⟨VLe.refl _,VLe.refl _,VLe.refl _,VLe.refl _,trivial⟩ rfl rfl ?_))|refine Fin.cd 6 (.inr rfl) rfl rfl rfl rfl ?_|refine y3 ?_|refine y7 ?_ ?_|refine y4 ?_|(refine y9 ?_ ?_<;>intro h)|exact y5|fail)
    all_goals (rw[eE_50 h50];show _=em C 3 0 (bufB y.int.toNat bl.ints);rw[hzn])
   ·by_cases h51:x.op=51
    ·have hpk:=pack_c p hp hO E hE N ih x k i c C xv hx (by omega) ha hv h51 hC
     subst hcx;refine FC.walk (by kernel_rfl) Tryz.func97 rfl rfl ?_
     repeat'(first|exact y0|refine y1 ?_|refine y2 ?_ ?_|(refine y8 ?_ ?_<;>intro h<;>try exact y6)|(refine wC ?_;first|(refine wF 158 ?_;refine CallG.cd 1 hpk rfl rfl rfl rfl rfl rfl rfl rfl rfl ⟨VLe.refl _,VLe.refl _,trivial⟩ rfl rfl ?_))|refine Fin.cd 6 (.inr rfl) rfl rfl rfl rfl ?_|refine y3 ?_|refine y7 ?_ ?_|refine y4 ?_|(refine y9 ?_ ?_<;>intro h)|exact y5|fail)
     all_goals (unfold eE expE;repeat (first|rw[if_pos (by omega)]|rw[if_neg (by omega)]);try rfl)
    ·by_cases h85:x.op=85∨x.op=87
     ·have hk2:k.V [(false,116)]:=by
       rcases h85 with h|h
       ·rw[h] at hk;exact hk
       ·rw[h] at hk;exact hk
      obtain⟨y,ky,n,rfl,q1,q2,q3⟩:=V_e hk2;have:=V_nil q3;subst this;simp only[Fo.size,Nat.add_zero] at hN hC hsz;have hrf:=reference_c p hp E hE N ih y ky (i+1) C xv hx (by omega) ⟨ha1.1,ha1.2.1,ha1.2.2.1,trivial⟩ q2 (by omega);have hty:=typeOf_c p hp E hE N ih y ky (i+1) C xv hx (by omega) ⟨ha1.1,ha1.2.1,ha1.2.2.1,trivial⟩ q2 (by omega);subst hcx;refine FC.walk (by kernel_rfl) Tryz.func97 rfl rfl ?_
      repeat'(first|exact y0|refine y1 ?_|refine y2 ?_ ?_|(refine y8 ?_ ?_<;>intro h<;>try exact y6)|(refine wC ?_;first|(refine wF 159 ?_;refine CallG.cd 1 hrf rfl rfl rfl rfl rfl rfl rfl rfl rfl ⟨VLe.refl _,VLe.refl _,trivial⟩ rfl rfl ?_)|(refine wF 160 ?_;refine CallG.cd 1 hty rfl rfl rfl rfl rfl rfl rfl rfl rfl ⟨VLe.refl _,VLe.refl _,trivial⟩ rfl rfl ?_))|refine Fin.cd 6 (.inr rfl) rfl rfl rfl rfl ?_|refine y3 ?_|refine y7 ?_ ?_|refine y4 ?_|(refine y9 ?_ ?_<;>intro h)|exact y5|fail)
      all_goals (unfold eE expE;repeat (first|rw[if_pos (by omega)]|rw[if_neg (by omega)]);try rfl)
     ·by_cases h41:x.op=41
      ·rw[h41] at hk
       change k.V [(false,110),(false,105)] at hk;obtain⟨y,n,rfl,q1,_⟩:=V_leaf (by decide) hk;obtain⟨z,n2,rfl,g1,_⟩:=V_leaf (by decide) q1;have:=V_nil g1;subst this;have hy:=At.get ha1;have ha2:=ha1.2.2.2;simp only[Fo.size,Nat.add_zero] at ha2 hN hC hsz;have hz:=At.get ha2;subst hcx;refine FC.walk (by kernel_rfl) Tryz.func97 rfl rfl ?_
       repeat'(first|exact y0|refine y1 ?_|refine y2 ?_ ?_|(refine y8 ?_ ?_<;>intro h<;>try exact y6)|(refine wC ?_;first|(refine wF 38 ?_;refine CallG.cd 1 (he _ _ _) rfl rfl rfl rfl rfl rfl rfl rfl rfl ⟨VLe.refl _,VLe.refl _,VLe.refl _,VLe.refl _,trivial⟩ rfl rfl ?_))|refine Fin.cd 6 (.inr rfl) rfl rfl rfl rfl ?_|refine y3 ?_|refine y7 ?_ ?_|refine y4 ?_|(refine y9 ?_ ?_<;>intro h)|exact y5|fail)
       all_goals (rw[eE_41 h41];subst hy;subst hz;rfl)
      ·by_cases h86:x.op=86
       ·rw[h86] at hk
        change k.V [(false,110)] at hk;obtain⟨y,n,rfl,q1,_⟩:=V_leaf (by decide) hk;have hy:=At.get ha1;simp only[Fo.size,Nat.add_zero] at hN hC hsz;subst hcx;refine FC.walk (by kernel_rfl) Tryz.func97 rfl rfl ?_
        repeat'(first|exact y0|refine y1 ?_|refine y2 ?_ ?_|(refine y8 ?_ ?_<;>intro h<;>try exact y6)|(refine wC ?_;first|(refine wF 38 ?_;refine CallG.cd 1 (he _ _ _) rfl rfl rfl rfl rfl rfl rfl rfl rfl ⟨VLe.refl _,VLe.refl _,VLe.refl _,VLe.refl _,trivial⟩ rfl rfl ?_))|refine Fin.cd 6 (.inr rfl) rfl rfl rfl rfl ?_|refine y3 ?_|refine y7 ?_ ?_|refine y4 ?_|(refine y9 ?_ ?_<;>intro h)|exact y5|fail)
        all_goals (rw[eE_86 h86];subst hy;rfl)
       ·subst hcx
        refine FC.walk (by kernel_rfl) Tryz.func97 rfl rfl ?_
        repeat'(first|exact y0|refine y1 ?_|refine y2 ?_ ?_|(refine y8 ?_ ?_<;>intro h<;>try exact y6)|(refine wC ?_;first|(refine wF 38 ?_;refine CallG.cd 1 (he _ _ _) rfl rfl rfl rfl rfl rfl rfl rfl rfl ⟨VLe.refl _,VLe.refl _,VLe.refl _,VLe.refl _,trivial⟩ rfl rfl ?_))|refine Fin.cd 6 (.inr rfl) rfl rfl rfl rfl ?_|refine y3 ?_|refine y7 ?_ ?_|refine y4 ?_|(refine y9 ?_ ?_<;>intro h)|exact y5|fail)
        all_goals (unfold eE expE;repeat (first|rw[if_pos (by omega)]|rw[if_neg (by omega)]);try rfl)
theorem exp_all (p:List Nd) (hp:p.length≤2048) (hO:NOK p) (E:List Nat) (hE:EOK p E):∀ N,EX p E N
 |0=>fun x k i c C xv h=>absurd h (Nat.not_lt_zero _)
 |N+1=>exp_c p hp hO E hE N (exp_all p hp hO E hE N)
set_option maxRecDepth 100000
set_option maxHeartbeats 1000000
theorem FC.sw {P:Program} {f:FuncId} {args:List V} {v:V} {p:List Nd} {E:List Nat} {C C':Cd} (h:∀ xv,isCell xv=true→FC P f args 5 (cdL p E C (.cst xv)) v 7 (cdL' p E C' (.cst xv))) (s:S) (hj:isJ s=false):FC P f args 5 (cdL p E C s) v 7 (cdL' p E C' s):=
 ⟨(h (.int .i64 0) rfl).1,SC.cst (i:=0) (o:=3) (i':=0) (o':=3) (bl:=cdB p E 1 C.length s) (bl':=cdB p E 5 C'.length s) rfl rfl rfl rfl hj rfl rfl fun x hx=>(h x hx).2⟩
theorem store_c (p:List Nd) (hp:p.length≤2048) (hO:NOK p) (E:List Nat) (hE:EOK p E) (x:Nd) (k:Fo) (i:Nat) (C:Cd) (xv:Value) (hx:isCell xv=true) (ha:(Fo.cons x k .nil).At p i) (hv:(Fo.cons x k .nil).V [(false,116)]) (hC:C.length+3*k.size≤900000000):
 FC Tryz.prog 98 [.s (.ptr (some (0,0))),nI i] 5 (cdL p E C (.cst xv)) .any 7 (cdL' p E (sto (.cons x k .nil) C) (.cst xv)):=by
 have hi:=At.lt ha;have hcx:=At.get ha;have htar:=acc_tar hv.1.1;have hrf:=reference_c p hp E hE (k.size+1) (exp_all p hp hO E hE _) x k i C xv hx (Nat.lt_succ_self _) ha hv hC;have hlr:(refE x C (cod 0 k C) (cod 4 k C)).length≤C.length+(3*k.size+1):=refE_le (cod_le k 0 C) (cod_le k 4 C);have he:=emit_c p E C (by omega) xv;have he2:=emit_c p E (refE x C (cod 0 k C) (cod 4 k C)) (by omega) xv;have e1:sto (.cons x k .nil) C=if x.op=3 then em C 9 0 x.str else if x.op=6 then em C 10 x.int [] else if x.op=7 then em C 11 x.int [] else em (refE x C (cod 0 k C) (cod 4 k C)) 12 0 []:=rfl;rw[e1];subst hcx;refine FC.walk (by kernel_rfl) Tryz.func98 rfl rfl ?_
 repeat'(first|exact y0|refine y1 ?_|refine y2 ?_ ?_|(refine y8 ?_ ?_<;>intro h<;>try exact y6)|(refine wC ?_;first|(refine wF 38 ?_;refine CallG.cd 1 (he _ _ _) rfl rfl rfl rfl rfl rfl rfl rfl rfl ⟨VLe.refl _,VLe.refl _,VLe.refl _,VLe.refl _,trivial⟩ rfl rfl ?_)|(refine wF 159 ?_;refine CallG.cd 1 hrf rfl rfl rfl rfl rfl rfl rfl rfl rfl ⟨VLe.refl _,VLe.refl _,trivial⟩ rfl rfl ?_)|(refine wF 38 ?_;refine CallG.cd 6 (he2 _ _ _) rfl rfl rfl rfl rfl rfl rfl rfl rfl ⟨VLe.refl _,VLe.refl _,VLe.refl _,VLe.refl _,trivial⟩ rfl rfl ?_))|refine Fin.cd 6 (.inr rfl) rfl rfl rfl rfl ?_|refine Fin.cd 8 (.inr rfl) rfl rfl rfl rfl ?_|refine y3 ?_|refine y7 ?_ ?_|refine y4 ?_|(refine y9 ?_ ?_<;>intro h)|exact y5|fail)
 all_goals (repeat (first|rw[if_pos (by omega)]|rw[if_neg (by omega)]);try rfl)
end Go.Proofs.YtbokilgdefkmiaaGreatDoor
