import Derived.Test.YtbokilgdefkmiaaGreatDoorCzB31
import Derived.Test.YtbokilgdefkmiaaGreatDoorCzB32
import Derived.Test.YtbokilgdefkmiaaGreatDoorCzB28
import Derived.Test.YtbokilgdefkmiaaGreatDoorCzB29
import Derived.Test.YtbokilgdefkmiaaGreatDoorCzB23
import Derived.Test.YtbokilgdefkmiaaGreatDoorCzB26
set_option linter.unusedSimpArgs false
set_option linter.unusedVariables false
namespace Go.Proofs.YtbokilgdefkmiaaGreatDoor
open Go Ab
set_option maxRecDepth 100000
set_option maxHeartbeats 2000000
theorem st_continue (p:List Nd) (hp:p.length≤2048) (hO:NOK p) (E:List Nat) (hE:EOK p E) (x:Nd) (k:Fo) (i:Nat) (Λ:Lp) (lp:Int) (C:Cd) (B:List Nat) (ha:(Fo.cons x k .nil).At p i) (hv:(Fo.cons x k .nil).V [(false,83)]) (hmt:Λ.mt lp B) (ho:Λ.ok C (k.size+1)) (hlk:Λ.lk (.cons x k .nil)) (hC:C.length+3*k.size+3≤900000000) (hop:x.op=35):
 FC Tryz.prog 64 [.s (.ptr (some (0,0))),nI i] 9 (slL p E C Λ) .any 15 (slL' p E (stE x k (stmC 1 k) (stmC 3 k) lp C B).1 Λ (Λ.af (whE x (whB 1 k) (whB 3 k)) (stE x k (stmC 1 k) (stmC 3 k) lp C B).2)):=by
 have hi:=At.lt ha;have hcx:=At.get ha;have hel:=hE.len;have hZ:=Lp.ok_Z ho;have ha1:=ha.2.2.1;have hsz:=At.size_le (Nat.le_of_lt hi) ha;have hk:k.V (slots (kindsB x.op x.kids).1):=hv.2.1
 rcases Λ with w0|⟨K,mm,st,B0⟩
 ·have:=(hlk w0 rfl).1
  omega
 obtain⟨rfl,rfl⟩:=hmt;obtain⟨o1,o2,o3,o4,o5,o6⟩:=ho
 have hsz2:(Tryz.prog.types[147]).size=2:=by kernel_rfl
 have hsz1:(Tryz.prog.types[3]).size=1:=by kernel_rfl
 have hby1:(Tryz.prog.types[3]).bytes=8:=by kernel_rfl
 have e1:stE x k (stmC 1 k) (stmC 3 k) lp C B=(em C 24 lp [],B):=by
  unfold stE;repeat (first|rw[if_pos (by omega)]|rw[if_neg (by omega)])
 have e2:whE x (whB 1 k) (whB 3 k)=false:=by
  unfold whE;rw[decide_eq_false (by omega),decide_eq_false (by omega)];rfl
 rw[e1,e2];show FC _ _ _ _ _ _ _ (slL' p E (em C 24 lp []) (Lp.top K mm lp B) ((Lp.top K mm lp B).af false B))
 have hem:∀ xv,isCell xv=true→FC Tryz.prog 38 [.s (.ptr (some (0,0))),nI 24,nU (lp),sV ([])] 5 (cdL p E (C) (.cst xv)) (nI (C).length) 7 (cdL' p E (em (C) 24 (lp) ([])) (.cst xv)):=fun xv hx=>emit_c p E (C) (by omega) xv 24 (lp) ([])
 have hx1:=FC.sw hem (.sla 3 4 (mm+1)) rfl;show FC _ _ _ _ _ _ _ (slL' p E (em C 24 lp []) (Lp.top K mm lp B) (Lp.top K mm lp B));subst hcx;refine FC.walk (by kernel_rfl) Tryz.func64 rfl rfl ?_
 repeat'(first|exact y0|refine y1 ?_|refine y2 ?_ ?_|(refine y8 ?_ ?_<;>intro h<;>try exact y6)|(refine wC ?_;first|(refine wF 38 ?_;refine CallG.cd 1 hx1 rfl rfl rfl rfl rfl rfl rfl rfl rfl ⟨VLe.refl _,VLe.refl _,VLe.refl _,VLe.refl _,trivial⟩ rfl rfl ?_))|refine RegX.chunkN 11 rfl rfl ?_ (RegX.eqv 82 (v:=nI (mm:Nat)) (congrArg nI (by push_cast;omega)) rfl ?_)|refine RegX.ldS [.val (nU lp)] rfl rfl ?_ rfl ?_|refine Fin.st 10 3 5 6 (.top K mm lp B) (.inr rfl) rfl rfl (by first|exact trivial|exact rfl|exact⟨rfl,rfl⟩) rfl rfl o1 ?_ rfl|refine y3 ?_|refine y7 ?_ ?_|refine y4 ?_|(refine y9 ?_ ?_<;>intro h)|exact y5|fail)
 all_goals first
  |rfl
  |omega
  |exact i64_in (by omega) (by omega)
  |(show (match (topC K lp 5 6 B.length)[plus (plus 0 (times mm (Tryz.prog.types[147]).size)) 0]? with|some x=>some (V.s x)|none=>none)=_;rw[show plus (plus 0 (times mm (Tryz.prog.types[147]).size)) 0=K.length by rw[hsz2,plus_eq,plus_eq,times_eq,o2];omega,get_end0])
theorem st_break (p:List Nd) (hp:p.length≤2048) (hO:NOK p) (E:List Nat) (hE:EOK p E) (x:Nd) (k:Fo) (i:Nat) (Λ:Lp) (lp:Int) (C:Cd) (B:List Nat) (ha:(Fo.cons x k .nil).At p i) (hv:(Fo.cons x k .nil).V [(false,83)]) (hmt:Λ.mt lp B) (ho:Λ.ok C (k.size+1)) (hlk:Λ.lk (.cons x k .nil)) (hC:C.length+3*k.size+3≤900000000) (hop:x.op=34):
 FC Tryz.prog 64 [.s (.ptr (some (0,0))),nI i] 9 (slL p E C Λ) .any 15 (slL' p E (stE x k (stmC 1 k) (stmC 3 k) lp C B).1 Λ (Λ.af (whE x (whB 1 k) (whB 3 k)) (stE x k (stmC 1 k) (stmC 3 k) lp C B).2)):=by
 have hi:=At.lt ha;have hcx:=At.get ha;have hel:=hE.len;have hZ:=Lp.ok_Z ho;have ha1:=ha.2.2.1;have hsz:=At.size_le (Nat.le_of_lt hi) ha;have hk:k.V (slots (kindsB x.op x.kids).1):=hv.2.1
 rcases Λ with w0|⟨K,mm,st,B0⟩
 ·have:=(hlk w0 rfl).1
  omega
 obtain⟨rfl,rfl⟩:=hmt;obtain⟨o1,o2,o3,o4,o5,o6⟩:=ho
 have hsz2:(Tryz.prog.types[147]).size=2:=by kernel_rfl
 have hsz1:(Tryz.prog.types[3]).size=1:=by kernel_rfl
 have hby1:(Tryz.prog.types[3]).bytes=8:=by kernel_rfl
 have e1:stE x k (stmC 1 k) (stmC 3 k) lp C B=(em C 24 0 [],B++[C.length]):=by
  unfold stE;repeat (first|rw[if_pos (by omega)]|rw[if_neg (by omega)])
 rw[e1];show FC _ _ _ _ _ _ _ (slL' p E (em C 24 0 []) (Lp.top K mm lp B) (Lp.top K mm lp (B++[C.length])))
 have hem:∀ xv,isCell xv=true→FC Tryz.prog 38 [.s (.ptr (some (0,0))),nI 24,nU (0),sV ([])] 5 (cdL p E (C) (.cst xv)) (nI (C).length) 7 (cdL' p E (em (C) 24 (0) ([])) (.cst xv)):=fun xv hx=>emit_c p E (C) (by omega) xv 24 (0) ([])
 have hx1:=FC.sw hem (.sla 3 4 (mm+1)) rfl
 have hidx:plus (plus 0 (times mm (Tryz.prog.types[147]).size)) 1=K.length+1:=by rw[hsz2,plus_eq,plus_eq,times_eq,o2];omega
 have hla:(B++[C.length]).length=B.length+1:=by rw[List.length_append];rfl
 subst hcx;refine FC.walk (by kernel_rfl) Tryz.func64 rfl rfl ?_
 repeat'(first|exact y0|refine y1 ?_|refine y2 ?_ ?_|(refine y8 ?_ ?_<;>intro h<;>try exact y6)|(refine wC ?_;first|(refine wF 38 ?_;refine CallG.cd 1 hx1 rfl rfl rfl rfl rfl rfl rfl rfl rfl ⟨VLe.refl _,VLe.refl _,VLe.refl _,VLe.refl _,trivial⟩ rfl rfl ?_))|refine RegX.ldS [.val (.s (.sla 5 6 B.length))] rfl rfl ?_ rfl ?_|refine RegX.app [.app (B++[C.length]).length ((B++[C.length]).map fun (j:Nat)=>S.int .i64 (j:Int))] rfl rfl ?_ rfl rfl rfl ?_|refine RegX.sto [.cells (topC K lp 13 14 (B++[C.length]).length)] rfl rfl ⟨?_,?_⟩ rfl ?_|refine RegX.chunkN 10 rfl rfl ?_ (RegX.eqv 57 (v:=nI (mm:Nat)) (congrArg nI (by push_cast;omega)) rfl ?_)|refine y3 ?_|refine y7 ?_ ?_|refine y4 ?_|(refine y9 ?_ ?_<;>intro h)|exact y5|fail)
 all_goals try first
  |omega
  |exact i64_in (by omega) (by omega)
  |(show (match (topC K lp 5 6 B.length)[plus (plus 0 (times mm (Tryz.prog.types[147]).size)) 1]? with|some x=>some (V.s x)|none=>none)=_;rw[hidx,get_end])
  |(rw[hsz1];show B.length*1≤(B.map fun (j:Nat)=>S.int .i64 (j:Int)).length;rw[List.length_map];omega)
  |(rw[hsz1];exact Nat.le_refl _)
  |(rw[hsz1,List.map_append,Nat.mul_one];show _=List.take B.length (B.map fun (j:Nat)=>S.int .i64 (j:Int))++_;rw[List.take_of_length_le (by rw[List.length_map];exact Nat.le_refl _)];rfl)
  |(rw[hby1,hla];omega)
  |(show plus (plus 0 (times mm (Tryz.prog.types[147]).size)) 1+1≤(topC K lp 5 6 B.length).length;rw[hidx,List.length_append];exact Nat.le_refl _)
  |(show _=(topC K lp 5 6 B.length).set (plus (plus 0 (times mm (Tryz.prog.types[147]).size)) 1) _;rw[hidx,set_end])
 refine Fin.st 10 3 13 14 (.top K mm lp (B++[C.length])) (.inr rfl) rfl rfl ⟨rfl,?_⟩ rfl rfl o1 rfl rfl;show some ({cells:=_,ty:=_,more:=true,sym:=true,flat:=_,gh:=some (_,(Tryz.prog.types[3]).size)}:Bl)=_;rw[hsz1]
theorem st_if (p:List Nd) (hp:p.length≤2048) (hO:NOK p) (E:List Nat) (hE:EOK p E) (N:Nat) (ih:BL p E N) (x:Nd) (k:Fo) (i:Nat) (Λ:Lp) (lp:Int) (C:Cd) (B:List Nat) (hN:k.size≤N) (ha:(Fo.cons x k .nil).At p i) (hv:(Fo.cons x k .nil).V [(false,83)]) (hmt:Λ.mt lp B) (ho:Λ.ok C (k.size+1)) (hlk:Λ.lk (.cons x k .nil)) (hC:C.length+3*k.size+3≤900000000) (hop:x.op=31):
 FC Tryz.prog 64 [.s (.ptr (some (0,0))),nI i] 9 (slL p E C Λ) .any 15 (slL' p E (stE x k (stmC 1 k) (stmC 3 k) lp C B).1 Λ (Λ.af (whE x (whB 1 k) (whB 3 k)) (stE x k (stmC 1 k) (stmC 3 k) lp C B).2)):=by
 have hi:=At.lt ha;have hcx:=At.get ha;have hel:=hE.len;have hZ:=Lp.ok_Z ho;have ha1:=ha.2.2.1;have hsz:=At.size_le (Nat.le_of_lt hi) ha;have hk:k.V (slots (kindsB x.op x.kids).1):=hv.2.1;have hcl:=branch_c p hp hO E hE N ih x k i 83 Λ lp C B hN ha hv hop hmt ho hlk hC;have hok2:=Lp.af_ok hmt ho (stE_g x k lp C B) (n':=0) (Nat.zero_le _) (whE x (whB 1 k) (whB 3 k));have hZ2:=Lp.ok_Z hok2;generalize stE x k (stmC 1 k) (stmC 3 k) lp C B=R at*;generalize whE x (whB 1 k) (whB 3 k)=w at*;subst hcx;refine FC.walk (by kernel_rfl) Tryz.func64 rfl rfl ?_
 rcases Λ with (_|_)|⟨K,mm,st,B0⟩
 ·rcases w with _|_
  all_goals
   repeat'(first|exact y0|refine y1 ?_|refine y2 ?_ ?_|(refine y8 ?_ ?_<;>intro h<;>try exact y6)|(refine wC ?_;first|(refine wF 99 ?_;refine CallG.st 1 3 5 6 [] hcl ⟨_,_,rfl⟩ trivial rfl rfl trivial rfl rfl rfl rfl ⟨VLe.refl _,VLe.refl _,trivial⟩ rfl rfl ?_))|refine y3 ?_|refine y7 ?_ ?_|refine y4 ?_|(refine y9 ?_ ?_<;>intro h)|exact y5|fail)
   exact Fin.st 10 12 14 15 (Lp.af (.out false) _ R.2) (.inr rfl) rfl rfl (by first|exact trivial|exact rfl|exact⟨rfl,rfl⟩) rfl rfl hZ2 rfl rfl
 ·rcases w with _|_
  all_goals
   repeat'(first|exact y0|refine y1 ?_|refine y2 ?_ ?_|(refine y8 ?_ ?_<;>intro h<;>try exact y6)|(refine wC ?_;first|(refine wF 99 ?_;refine CallG.st 1 3 5 6 [] hcl ⟨_,_,rfl⟩ trivial rfl rfl rfl rfl rfl rfl rfl ⟨VLe.refl _,VLe.refl _,trivial⟩ rfl rfl ?_))|refine y3 ?_|refine y7 ?_ ?_|refine y4 ?_|(refine y9 ?_ ?_<;>intro h)|exact y5|fail)
   exact Fin.st 10 12 14 15 (Lp.af (.out true) _ R.2) (.inr rfl) rfl rfl (by first|exact trivial|exact rfl|exact⟨rfl,rfl⟩) rfl rfl hZ2 rfl rfl
 ·rcases w with _|_
  all_goals
   repeat'(first|exact y0|refine y1 ?_|refine y2 ?_ ?_|(refine y8 ?_ ?_<;>intro h<;>try exact y6)|(refine wC ?_;first|(refine wF 99 ?_;refine CallG.st 1 3 5 6 K hcl ⟨_,_,rfl⟩ ⟨ZOK.all (K:=K) hZ 9,ZOK.map (K:=K) hZ _⟩ rfl rfl ⟨rfl,rfl⟩ rfl rfl rfl rfl ⟨VLe.refl _,VLe.refl _,trivial⟩ rfl rfl ?_))|refine y3 ?_|refine y7 ?_ ?_|refine y4 ?_|(refine y9 ?_ ?_<;>intro h)|exact y5|fail)
   exact Fin.st 10 12 14 15 (Lp.af (.top K mm st B0) _ R.2) (.inr rfl) rfl rfl (by first|exact trivial|exact rfl|exact⟨rfl,rfl⟩) rfl rfl hZ2 rfl rfl
theorem st_while (p:List Nd) (hp:p.length≤2048) (hO:NOK p) (E:List Nat) (hE:EOK p E) (N:Nat) (ih:BL p E N) (x:Nd) (k:Fo) (i:Nat) (Λ:Lp) (lp:Int) (C:Cd) (B:List Nat) (hN:k.size≤N) (ha:(Fo.cons x k .nil).At p i) (hv:(Fo.cons x k .nil).V [(false,83)]) (hmt:Λ.mt lp B) (ho:Λ.ok C (k.size+1)) (hlk:Λ.lk (.cons x k .nil)) (hC:C.length+3*k.size+3≤900000000) (hop:x.op=32):
 FC Tryz.prog 64 [.s (.ptr (some (0,0))),nI i] 9 (slL p E C Λ) .any 15 (slL' p E (stE x k (stmC 1 k) (stmC 3 k) lp C B).1 Λ (Λ.af (whE x (whB 1 k) (whB 3 k)) (stE x k (stmC 1 k) (stmC 3 k) lp C B).2)):=by
 have hi:=At.lt ha;have hcx:=At.get ha;have hel:=hE.len;have hZ:=Lp.ok_Z ho;have ha1:=ha.2.2.1;have hsz:=At.size_le (Nat.le_of_lt hi) ha;have hk:k.V (slots (kindsB x.op x.kids).1):=hv.2.1;have hcl:=while_c p hp hO E hE N ih x k i 83 Λ lp C B hN ha hv hop hmt ho hC;have hok2:=Lp.af_ok hmt ho (stE_g x k lp C B) (n':=0) (Nat.zero_le _) (whE x (whB 1 k) (whB 3 k));have hZ2:=Lp.ok_Z hok2;generalize stE x k (stmC 1 k) (stmC 3 k) lp C B=R at*;generalize whE x (whB 1 k) (whB 3 k)=w at*;subst hcx;refine FC.walk (by kernel_rfl) Tryz.func64 rfl rfl ?_
 rcases Λ with (_|_)|⟨K,mm,st,B0⟩
 ·rcases w with _|_
  all_goals
   repeat'(first|exact y0|refine y1 ?_|refine y2 ?_ ?_|(refine y8 ?_ ?_<;>intro h<;>try exact y6)|(refine wC ?_;first|(refine wF 100 ?_;refine CallG.st 1 3 5 6 [] hcl ⟨_,_,rfl⟩ trivial rfl rfl trivial rfl rfl rfl rfl ⟨VLe.refl _,VLe.refl _,trivial⟩ rfl rfl ?_))|refine y3 ?_|refine y7 ?_ ?_|refine y4 ?_|(refine y9 ?_ ?_<;>intro h)|exact y5|fail)
   exact Fin.st 10 12 14 15 (Lp.af (.out false) _ R.2) (.inr rfl) rfl rfl (by first|exact trivial|exact rfl|exact⟨rfl,rfl⟩) rfl rfl hZ2 rfl rfl
 ·rcases w with _|_
  all_goals
   repeat'(first|exact y0|refine y1 ?_|refine y2 ?_ ?_|(refine y8 ?_ ?_<;>intro h<;>try exact y6)|(refine wC ?_;first|(refine wF 100 ?_;refine CallG.st 1 3 5 6 [] hcl ⟨_,_,rfl⟩ trivial rfl rfl rfl rfl rfl rfl rfl ⟨VLe.refl _,VLe.refl _,trivial⟩ rfl rfl ?_))|refine y3 ?_|refine y7 ?_ ?_|refine y4 ?_|(refine y9 ?_ ?_<;>intro h)|exact y5|fail)
   exact Fin.st 10 12 14 15 (Lp.af (.out true) _ R.2) (.inr rfl) rfl rfl (by first|exact trivial|exact rfl|exact⟨rfl,rfl⟩) rfl rfl hZ2 rfl rfl
 ·rcases w with _|_
  all_goals
   repeat'(first|exact y0|refine y1 ?_|refine y2 ?_ ?_|(refine y8 ?_ ?_<;>intro h<;>try exact y6)|(refine wC ?_;first|(refine wF 100 ?_;refine CallG.st 1 3 5 6 K hcl ⟨_,_,rfl⟩ ⟨ZOK.all (K:=K) hZ 9,ZOK.map (K:=K) hZ _⟩ rfl rfl ⟨rfl,rfl⟩ rfl rfl rfl rfl ⟨VLe.refl _,VLe.refl _,trivial⟩ rfl rfl ?_))|refine y3 ?_|refine y7 ?_ ?_|refine y4 ?_|(refine y9 ?_ ?_<;>intro h)|exact y5|fail)
   exact Fin.st 10 12 14 15 (Lp.af (.top K mm st B0) _ R.2) (.inr rfl) rfl rfl (by first|exact trivial|exact rfl|exact⟨rfl,rfl⟩) rfl rfl hZ2 rfl rfl
theorem st_c (p:List Nd) (hp:p.length≤2048) (hO:NOK p) (E:List Nat) (hE:EOK p E) (N:Nat) (ih:BL p E N):ST p E (N+1):=by
 intro x k i Λ lp C B hN ha hv hmt ho hlk hC;have hac:accB 83 x.op=true:=hv.1.1;unfold accB at hac
 repeat (first|rw[if_pos (by decide)] at hac|rw[if_neg (by decide)] at hac)
 simp only[Bool.or_eq_true,Bool.and_eq_true,decide_eq_true_eq] at hac
 rcases (by omega:x.op=30∨x.op=31∨x.op=32∨x.op=33∨x.op=34∨x.op=35∨(x.op=36∨x.op=37∨x.op=38)∨x.op=39∨x.op=40∨(x.op=5∨x.op=41∨x.op=42)) with h|h|h|h|h|h|h|h|h|h
 ·exact st_store p hp hO E hE x k i Λ lp C B ha hv hmt ho hC h
 ·exact st_if p hp hO E hE N ih x k i Λ lp C B (by omega) ha hv hmt ho hlk hC h
 ·exact st_while p hp hO E hE N ih x k i Λ lp C B (by omega) ha hv hmt ho hlk hC h
 ·exact st_return p hp hO E hE x k i Λ lp C B ha hv hmt ho hC h
 ·exact st_break p hp hO E hE x k i Λ lp C B ha hv hmt ho hlk hC h
 ·exact st_continue p hp hO E hE x k i Λ lp C B ha hv hmt ho hlk hC h
 ·exact st_sync p hp hO E hE x k i Λ lp C B ha hv hmt ho hC h
 ·exact st_sleep p hp hO E hE x k i Λ lp C B ha hv hmt ho hC h
 ·exact st_notify p hp hO E hE x k i Λ lp C B ha hv hmt ho hC h
 ·exact st_expr p hp hO E hE x k i Λ lp C B ha hv hmt ho hC h
theorem st_all (p:List Nd) (hp:p.length≤2048) (hO:NOK p) (E:List Nat) (hE:EOK p E):∀ N,ST p E N
 |0=>fun x k i Λ lp C B h=>absurd h (Nat.not_lt_zero _)
 |N+1=>st_c p hp hO E hE N fun x k i Λ lp C B h=>block_c p hp E hE N (st_all p hp hO E hE N) x k i Λ lp C B (Nat.lt_succ_of_lt h)
theorem bl_all (p:List Nd) (hp:p.length≤2048) (hO:NOK p) (E:List Nat) (hE:EOK p E) (N:Nat):BL p E (N+1):=block_c p hp E hE N (st_all p hp hO E hE N)
def effB (op n:Int):Int×Int×Bool:=
 if op=1∨op=2∨op=3∨op=4∨op=6∨op=7∨op=8∨op=13∨op=14∨op=15∨op=22∨op=23∨op=29 then (0,1,true)
 else if op=17∨op=18∨op=21∨op=31 then (1,1,true)
 else if op=16∨op=19 then (2,1,true)
 else if op=20 then (3,1,true)
 else if op=27 then (if n≤7 then (n,1,true) else (0,0,false))
 else if op=5 then (n%256,1,true)
 else if op=9∨op=10∨op=11∨op=25∨op=26∨op=34∨op=35 then (1,0,true)
 else if op=12 then (2,0,true)
 else if op=24∨op=30∨op=32∨op=33 then (0,0,true)
 else if op=28 then (if n≤1 then (n,0,true) else (0,0,false))
 else (0,0,false)
theorem effB_nn {op n:Int} (hn:0≤n):0≤(effB op n).1∧0≤(effB op n).2.1∧(effB op n).1≤255∧(effB op n).2.1≤1:=by
 unfold effB
 repeat' split
 all_goals (simp only;omega)
def sucB (x:Ins) (i:Nat):List Int:=if x.op=24 then [x.int] else if x.op=25 then [x.int,(i:Int)+1] else if x.op=28 then [] else [(i:Int)+1]
def tgtB (N:Nat) (a:Int):List Int→List Int→List Nat→Option (List Int×List Nat)
 |[],A,W=>some (A,W)
 |z::zs,A,W=>
  if (N:Int)≤z then none
  else if A.getD z.toNat 0<0 then tgtB N a zs (A.set z.toNat a) (W++[z.toNat])
  else if A.getD z.toNat 0=a then tgtB N a zs A W else none
def depB (l:Cd):Nat→List Int→List Nat→Int→Int×Bool
 |0,_,_,_=>(0,false)
 |f+1,A,W,m=>
  match W.getLast? with
  |none=>(m,true)
  |some i=>
   let e:=effB (l.getD i dI).op (l.getD i dI).int
   let b:=A.getD i 0
   if e.2.2=false∨b<e.1 then (0,false)
   else match tgtB l.length (b-e.1+e.2.1) (sucB (l.getD i dI) i) A W.dropLast with
    |none=>(0,false)
    |some (A',W')=>depB l f A' W' (max (max m b) (b-e.1+e.2.1))
def negs (A:List Int):Nat:=(A.filter fun z=>decide (z<0)).length
theorem negs_set:∀ (A:List Int) (j:Nat) (a:Int),j<A.length→A.getD j 0<0→0≤a→negs (A.set j a)+1=negs A
 |z::A,0,a,_,h,ha=>by
  simp only[List.getD_cons_zero] at h;simp only[negs,List.set_cons_zero,List.filter_cons,decide_eq_true h,if_true,List.length_cons];rw[if_neg (by simp;omega)]
 |z::A,j+1,a,hj,h,ha=>by
  simp only[List.getD_cons_succ] at h;have:=negs_set A j a (by simpa using hj) h ha;simp only[negs,List.set_cons_succ,List.filter_cons] at this ⊢;split
  ·simp only[List.length_cons];omega
  ·exact this
theorem negs_le (A:List Int):negs A≤A.length:=List.length_filter_le _ _
structure DOK (N:Nat) (A:List Int) (W:List Nat):Prop where
 len:A.length=N
 w:∀ i∈W,i<N∧0≤A.getD i 0
theorem tgtB_ok {N:Nat} {a:Int} (ha:0≤a):∀ (zs:List Int) (A:List Int) (W:List Nat) (A':List Int) (W':List Nat),(∀ z∈zs,0≤z)→DOK N A W→tgtB N a zs A W=some (A',W')→DOK N A' W'∧2*negs A'+W'.length≤2*negs A+W.length
 |[],A,W,A',W',_,h,e=>by
  simp only[tgtB,Option.some.injEq,Prod.mk.injEq] at e;obtain⟨rfl,rfl⟩:=e;exact⟨h,Nat.le_refl _⟩
 |z::zs,A,W,A',W',hz,h,e=>by
  have hz0:=hz z (List.mem_cons_self ..)
  have hzs:∀ y∈zs,0≤y:=fun y hy=>hz y (List.mem_cons_of_mem _ hy)
  simp only[tgtB] at e;split at e
  ·cases e
  ·rename_i h1
   have hlt:z.toNat<A.length:=by rw[h.len];omega
   split at e
   ·rename_i h2
    have hd:DOK N (A.set z.toNat a) (W++[z.toNat]):=by
     refine⟨by rw[List.length_set];exact h.len,fun i hi=>?_⟩
     have key:(A.set z.toNat a).getD i 0=if z.toNat=i then a else A.getD i 0:=by
      rw[List.getD_eq_getElem?_getD,List.getElem?_set];split
      ·rename_i e;subst e;first|rfl|(rw[if_pos hlt];rfl)
      ·rw[List.getD_eq_getElem?_getD]
     rw[key]
     rcases List.mem_append.1 hi with hi|hi
     ·refine⟨(h.w i hi).1,?_⟩
      split
      ·exact ha
      ·exact (h.w i hi).2
     ·rw[List.mem_singleton] at hi;subst hi
      exact⟨by rw[←h.len];exact hlt,by rw[if_pos rfl];exact ha⟩
    obtain⟨k1,k2⟩:=tgtB_ok ha zs _ _ A' W' hzs hd e;have:=negs_set A z.toNat a hlt h2 ha;refine⟨k1,?_⟩;rw[List.length_append] at k2;simp only[List.length_cons,List.length_nil] at k2;omega
   ·split at e
    ·exact tgtB_ok ha zs A W A' W' hzs h e
    ·cases e
set_option maxRecDepth 100000
set_option maxHeartbeats 2000000
theorem tupE {op n a b:Int} {c:Bool} (e:effB op n=(a,b,c)):V.tup [.s (.int .i64 a),.s (.int .i64 b),.s (.bool c)]=V.tup [.s (.int .i64 (effB op n).1),.s (.int .i64 (effB op n).2.1),.s (.bool (effB op n).2.2)]:=by rw[e]
theorem eff_c (op n:Int) (s:By) (hn:0≤n):FC Tryz.prog 14 [.agg [.int .i64 op,.int .u64 n,.str s]] 0 [] (.tup [.s (.int .i64 (effB op n).1),.s (.int .i64 (effB op n).2.1),.s (.bool (effB op n).2.2)]) 0 []:=by
 refine FC.walk (by kernel_rfl) Tryz.func14 rfl rfl ?_
 repeat'(first|exact y0|refine y1 ?_|refine y2 ?_ ?_|(refine y8 ?_ ?_<;>intro h<;>try exact y6)|refine Fin.plain (.inl rfl) rfl ?_ rfl|refine y3 ?_|refine y7 ?_ ?_|refine y4 ?_|(refine y9 ?_ ?_<;>intro h)|exact y5|fail)
 all_goals try rw[Int.tmod_eq_emod_of_nonneg hn]
 all_goals try exact i64_in (by omega) (by omega)
 all_goals refine tupE ?_
 all_goals (unfold effB;repeat (first|rw[if_pos (by omega)]|rw[if_neg (by omega)]))
set_option maxRecDepth 100000
set_option maxHeartbeats 2000000
def sucN (op:Int) (m i:Nat):List Nat:=if op=24 then [m] else if op=25 then [m,i+1] else if op=28 then [] else [i+1]
theorem suc_map (x:Ins) (m i:Nat) (hx:x.int=(m:Int)):sucB x i=(sucN x.op m i).map fun (j:Nat)=>(j:Int):=by
 unfold sucB sucN;rw[hx]
 repeat' split
 all_goals rfl
theorem u_get {l:List Nat} {cs:List S} (hc:cs=l.map fun (z:Nat)=>S.int .u64 (z:Int)):∀ (k j:Nat) (x:S),k<l.length→[S.int .u64 ((l.getD k 0:Nat):Int)][j]? =some x→cs[k*1+j]? =some x∧pureS x=true:=by
 intro k j x hk hx;subst hc
 cases j with
 |succ j=>simp at hx
 |zero=>
  simp only[List.getElem?_cons_zero,Option.some.injEq] at hx;subst hx;rw[Nat.mul_one,Nat.add_zero,List.getElem?_map,List.getElem?_eq_getElem hk,List.getD_eq_getElem?_getD,List.getElem?_eq_getElem hk];exact⟨rfl,rfl⟩
abbrev frzU (l:List Nat):S:=.frz (fun k=>[.int .u64 ((l.getD k 0:Nat):Int)]) 1 l.length
theorem suc_l (op:Int) (m:Nat) (s:By) (i:Nat) (l:List Nat) (hl:l=sucN op m i) (hi:i≤1000000000):FC Tryz.prog 39 [.agg [.int .i64 op,.int .u64 m,.str s],nI i] 0 [] (.s (frzU l)) 0 []:=by
 unfold sucN at hl;by_cases h24:op=24
 ·rw[if_pos h24] at hl
  subst hl;refine FC.walk (by kernel_rfl) Tryz.func39 rfl rfl ?_
  repeat'(first|exact y0|refine y1 ?_|refine y2 ?_ ?_|(refine y8 ?_ ?_<;>intro h<;>try exact y6)|refine Ex.fz 4 (fun k=>[.int .u64 ((([m]:List Nat).getD k 0:Nat):Int)]) 1 rfl rfl rfl rfl (fun _ _=>rfl) ?_ rfl rfl ?_|refine Fin.le (.inl rfl) rfl (VLe.refl _) rfl|refine y3 ?_|refine y7 ?_ ?_|refine y4 ?_|(refine y9 ?_ ?_<;>intro h)|exact y5|fail)
  all_goals first|exact u64_id (by omega) (by omega)|omega|exact u_get (l:=[m]) rfl
 ·rw[if_neg h24] at hl
  by_cases h25:op=25
  ·rw[if_pos h25] at hl
   subst hl;refine FC.walk (by kernel_rfl) Tryz.func39 rfl rfl ?_
   repeat'(first|exact y0|refine y1 ?_|refine y2 ?_ ?_|(refine y8 ?_ ?_<;>intro h<;>try exact y6)|refine Ex.fz 4 (fun k=>[.int .u64 ((([m,i+1]:List Nat).getD k 0:Nat):Int)]) 1 rfl rfl rfl rfl (fun _ _=>rfl) ?_ rfl rfl ?_|refine Fin.le (.inl rfl) rfl (VLe.refl _) rfl|refine y3 ?_|refine y7 ?_ ?_|refine y4 ?_|(refine y9 ?_ ?_<;>intro h)|exact y5|fail)
   all_goals first|exact u64_id (by omega) (by omega)|omega|exact u_get (l:=[m,i+1]) rfl
  ·rw[if_neg h25] at hl
   by_cases h28:op=28
   ·rw[if_pos h28] at hl
    subst hl;refine FC.walk (by kernel_rfl) Tryz.func39 rfl rfl ?_
    repeat'(first|exact y0|refine y1 ?_|refine y2 ?_ ?_|(refine y8 ?_ ?_<;>intro h<;>try exact y6)|refine Fin.le (.inl rfl) rfl (VLe.s SLe.nil) rfl|refine y3 ?_|refine y7 ?_ ?_|refine y4 ?_|(refine y9 ?_ ?_<;>intro h)|exact y5|fail)
    all_goals first|exact u64_id (by omega) (by omega)|omega
   ·rw[if_neg h28] at hl
    subst hl;refine FC.walk (by kernel_rfl) Tryz.func39 rfl rfl ?_
    repeat'(first|exact y0|refine y1 ?_|refine y2 ?_ ?_|(refine y8 ?_ ?_<;>intro h<;>try exact y6)|refine Ex.fz 4 (fun k=>[.int .u64 ((([i+1]:List Nat).getD k 0:Nat):Int)]) 1 rfl rfl rfl rfl (fun _ _=>rfl) ?_ rfl rfl ?_|refine Fin.le (.inl rfl) rfl (VLe.refl _) rfl|refine y3 ?_|refine y7 ?_ ?_|refine y4 ?_|(refine y9 ?_ ?_<;>intro h)|exact y5|fail)
    all_goals first|exact u64_id (by omega) (by omega)|omega|exact u_get (l:=[i+1]) rfl
def endsL (t:Fo):List Nat:=(List.range t.size).map fun i=>i+1+(t.kid 0 i).size
theorem endsL_get {t:Fo} {i:Nat} (hi:i<t.size):(endsL t).getD i 0=i+1+(t.kid 0 i).size:=by
 simp[endsL,List.getD_eq_getElem?_getD,hi]
theorem endsL_ok {p:List Nd} {t:Fo} {cs:List (Bool×Int)} (ha:t.At p 0) (hv:t.V cs) (hs:t.size=p.length):EOK p (endsL t):=by
 refine⟨by simp[endsL,hs],fun i hi=>?_⟩;obtain⟨sl,h1,_⟩:=kid_at (i:=i) ha hv (Nat.zero_le i) (by omega);rw[endsL_get (by omega)];exact At.ends1 h1
def endU (t:Fo) (i:Nat):List Nat:=(List.range t.size).map fun j=>if j<i then 0 else j+1+(t.kid 0 j).size
theorem endU_len (t:Fo) (i:Nat):(endU t i).length=t.size:=by simp[endU]
theorem endU_get {t:Fo} {i j:Nat} (hj:j<t.size) (h:i≤j):(endU t i).getD j 0=j+1+(t.kid 0 j).size:=by
 simp[endU,List.getD_eq_getElem?_getD,hj];omega
theorem endU_all (t:Fo):endU t t.size=List.replicate t.size 0:=by
 apply List.ext_getElem
 ·simp[endU]
 ·intro j h1 h2
  simp only[endU,List.length_map,List.length_range] at h1;simp[endU,h1]
theorem endU_zero (t:Fo):endU t 0=endsL t:=by simp[endU,endsL]
theorem endU_set {t:Fo} {i:Nat} (hi:i<t.size):(endU t (i+1)).set i (i+1+(t.kid 0 i).size)=endU t i:=by
 apply List.ext_getElem
 ·simp[endU]
 ·intro j h1 h2
  simp only[endU,List.length_map,List.length_range] at h2;rw[List.getElem_set];simp only[endU,List.getElem_map,List.getElem_range];split
  ·rename_i e;subst e;simp
  ·rename_i e
   by_cases h:j<i
   ·rw[if_pos (by omega),if_pos h]
   ·rw[if_neg (by omega),if_neg h]
set_option maxRecDepth 100000
set_option maxHeartbeats 2000000
abbrev ntC (l:List Nat):List S:=l.map fun (j:Nat)=>S.int .i64 (j:Int)
abbrev ntB (l:List Nat):Bl:={cells:=ntC l,ty:=3,sym:=true,flat:=true}
theorem nt_get (l:List Nat) {n:Nat} (h:n<l.length):(ntC l)[n]? =some (.int .i64 ((l.getD n 0:Nat):Int)):=by
 rw[List.getElem?_map,List.getElem?_eq_getElem h,List.getD_eq_getElem?_getD,List.getElem?_eq_getElem h];rfl
theorem nt_rep (n:Nat):ntC (List.replicate n 0)=List.replicate n (.int .i64 0):=by simp[ntC]
theorem ends_c (p:List Nd) (hp:p.length≤2048) (h0:0<p.length) (t:Fo) {cs:List (Bool×Int)} (ha:t.At p 0) (hv:t.V cs) (hs:t.size=p.length):
 FC Tryz.prog 36 [nodes p] 0 [] (.s (.frz (fun k=>[.int .i64 (((endsL t).getD k 0:Nat):Int)]) 1 (endsL t).length)) 0 []:=by
 have hsz:(Tryz.prog.types[3]).size=1:=by kernel_rfl
 have hby:(Tryz.prog.types[3]).bytes=8:=by kernel_rfl
 have hel:(endsL t).length=p.length:=by rw[endsL,List.length_map,List.length_range,hs]
 refine FC.walk (by kernel_rfl) Tryz.func36 rfl rfl ?_
 repeat'(first|exact y0|refine y1 ?_|refine y2 ?_ ?_|(refine y8 ?_ ?_<;>intro h<;>try exact y6)|refine y3 ?_|refine y7 ?_ ?_|refine y4 ?_|(refine y9 ?_ ?_<;>intro h)|exact y5|fail)
 refine RegX.opA [.idx p.length,.idx p.length] rfl rfl ⟨rfl,rfl,Nat.le_refl _,?_,by omega⟩ ?_
 ·rw[hby];omega
 repeat'(first|exact y0|refine y1 ?_|refine y2 ?_ ?_|(refine y8 ?_ ?_<;>intro h<;>try exact y6)|refine y3 ?_|refine y7 ?_ ?_|refine y4 ?_|(refine y9 ?_ ?_<;>intro h)|exact y5|fail)
 refine Ex.inv (σ:=Nat) (fun i=>[(4,.s (.int .i64 ((i:Int)-1)))]) (fun i=>[(0,some (ntB (endU t i)))]) (fun i=>i≤p.length) (fun i=>i) p.length rfl (fun _=>rfl) (Nat.le_refl _) ⟨VLe.refl _,trivial⟩ ⟨by rw[←hs,endU_all,hs,ntB,nt_rep];rfl,trivial⟩ ?_;intro i hi
 cases i with
 |zero=>
  repeat'(first|exact y0|refine y1 ?_|refine y2 ?_ ?_|(refine y8 ?_ ?_<;>intro h<;>try exact y6)|refine Ex.fz 2 (fun k=>[.int .i64 (((endsL t).getD k 0:Nat):Int)]) 1 rfl rfl rfl rfl (fun _ _=>rfl) ?_ rfl rfl ?_|refine Fin.le (.inl rfl) rfl (VLe.of_eq (by show _=V.s (.frz _ 1 (endsL t).length);rw[hel];rfl)) rfl|refine y3 ?_|refine y7 ?_ ?_|refine y4 ?_|(refine y9 ?_ ?_<;>intro h)|exact y5|fail)
  intro k j x hk hx
  cases j with
  |succ j=>simp at hx
  |zero=>
   simp only[List.getElem?_cons_zero,Option.some.injEq] at hx;subst hx;rw[endU_zero];refine⟨?_,rfl⟩;rw[Nat.mul_one,Nat.add_zero];exact nt_get _ (by rw[endsL,List.length_map,List.length_range,hs];exact hk)
 |succ i=>
  refine Ex.set 4 (nI i) (VLe.of_eq (congrArg nI (by push_cast;omega))) rfl ?_;obtain⟨sl,k1,k2⟩:=kid_at (i:=i) ha hv (Nat.zero_le i) (by omega)
  have hkid:(p.getD i dN).kids=(((t.kid 0 i).starts (i+1)).length:Nat):=by rw[starts_len];exact k1.2.1
  have hch:=At.chain k1.2.2.1
  have hcn:((t.kid 0 i).starts (i+1)).length≤2048:=by
   rw[starts_len];have h1:=Fo.cnt_le (t.kid 0 i);have h2:=At.size_le (Nat.le_of_lt (At.lt k1)) k1;simp only[Fo.size] at h2;omega
  have hul:=endU_len t (i+1);generalize hcs:(t.kid 0 i).starts (i+1)=st at*
  repeat'(first|exact y0|refine y1 ?_|refine y2 ?_ ?_|(refine y8 ?_ ?_<;>intro h<;>try exact y6)|refine y3 ?_|refine y7 ?_ ?_|refine y4 ?_|(refine y9 ?_ ?_<;>intro h)|exact y5|fail)
  all_goals try omega
  rw[hkid];refine Ex.inv (σ:=List Nat×Nat×Nat) (fun q=>[(5,nI q.2.1),(23,nI q.2.2)]) (fun q=>[(0,some (ntB (endU t (i+1))))]) (fun q=>Chain p (i+1+(t.kid 0 i).size) q.2.1 q.1∧q.2.2+q.1.length=st.length∧i+1≤q.2.1) (fun q=>q.1.length) (st,i+1,0) rfl (fun _=>rfl) ⟨hch,by simp only;omega,Nat.le_refl _⟩ ⟨VLe.refl _,VLe.refl _,trivial⟩ ⟨rfl,trivial⟩ ?_;rintro⟨rest,cur,c⟩ ⟨c1,c2,c3⟩;simp only at c1 c2 c3 ⊢
  cases c1 with
  |nil=>
   simp only[List.length_nil] at c2;have e6:=endU_set (t:=t) (i:=i) (by omega)
   repeat'(first|exact y0|refine y1 ?_|refine y2 ?_ ?_|(refine y8 ?_ ?_<;>intro h<;>try exact y6)|refine RegX.sto [.cells (ntC (endU t i))] rfl rfl ⟨?_,?_⟩ rfl ?_|refine y3 ?_|refine y7 ?_ ?_|refine y4 ?_|(refine y9 ?_ ?_<;>intro h)|exact y5|fail)
   all_goals try first
    |omega
    |(show plus 0 (times i (Tryz.prog.types[3]).size)+1≤(ntC (endU t (i+1))).length;rw[hsz,plus_eq,times_eq,List.length_map,hul];omega)
    |(show _=(ntC (endU t (i+1))).set (plus 0 (times i (Tryz.prog.types[3]).size)) _;rw[hsz,plus_eq,times_eq,Nat.zero_add,Nat.mul_one,←e6];exact List.map_set)
   exact LoopR.same i (by omega) (by omega) rfl ⟨VLe.refl _,trivial⟩ ⟨rfl,trivial⟩ rfl rfl (by decide)
  | @cons _ e l he r=>
    simp only[List.length_cons] at c2
    have hlt:cur<p.length:=by cases he with|step h _ _ _=>exact h
    obtain⟨sl2,m1,m2⟩:=kid_at (i:=cur) ha hv (Nat.zero_le cur) (by omega)
    have hee:(endU t (i+1)).getD cur 0=e:=by rw[endU_get (by omega) c3];exact (At.ends1 m1).uniq he
    have hle:=he.le.1
    repeat'(first|exact y0|refine y1 ?_|refine y2 ?_ ?_|(refine y8 ?_ ?_<;>intro h<;>try exact y6)|refine RegX.ldS [.val (nI ((endU t (i+1)).getD cur 0:Nat))] rfl rfl ?_ rfl ?_|refine y3 ?_|refine y7 ?_ ?_|refine y4 ?_|(refine y9 ?_ ?_<;>intro h)|exact y5|fail)
    all_goals try first
     |omega
     |(show (match (ntC (endU t (i+1)))[plus 0 (times cur (Tryz.prog.types[3]).size)]? with|some x=>some (V.s x)|none=>none)=_;rw[hsz,plus_eq,times_eq,Nat.zero_add,Nat.mul_one,nt_get _ (by omega)])
    rw[hee];exact LoopR.same (l,e,c+1) ⟨r,by simp only;omega,by simp only;omega⟩ (by simp) rfl ⟨VLe.refl _,VLe.refl _,trivial⟩ ⟨rfl,trivial⟩ rfl rfl (by decide)
set_option maxRecDepth 100000
set_option maxHeartbeats 2000000
abbrev dpB (C:Cd):Bl:={cells:=C.flatMap insC,ty:=40,more:=true,sym:=true,flat:=true,ro:=true,gh:=some (1,3)}
abbrev itC (A:List Int):List S:=A.map fun z=>S.int .i64 z
abbrev itB (A:List Int):Bl:={cells:=itC A,ty:=3,sym:=true,flat:=true}
def negU (n j:Nat):List Int:=(List.range n).map fun i=>if i<j then-1 else 0
theorem negU_len (n j:Nat):(negU n j).length=n:=by simp[negU]
theorem negU_set {n j:Nat} (h:j<n):(negU n j).set j (-1)=negU n (j+1):=by
 apply List.ext_getElem
 ·simp[negU]
 ·intro i h1 h2
  simp only[negU,List.length_map,List.length_range] at h2;rw[List.getElem_set];simp only[negU,List.getElem_map,List.getElem_range];split
  ·rename_i e;subst e;rw[if_pos (Nat.lt_succ_self _)]
  ·by_cases h:i<j
   ·rw[if_pos h,if_pos (by omega)]
   ·rw[if_neg h,if_neg (by omega)]
theorem negU_zero (n:Nat):itC (negU n 0)=List.replicate n (.int .i64 0):=by
 apply List.ext_getElem
 ·simp[negU]
 ·intro j h1 h2;simp[negU]
theorem negU_all (n:Nat):negU n n=List.replicate n (-1):=by
 apply List.ext_getElem
 ·simp[negU]
 ·intro j h1 h2
  simp only[negU,List.length_map,List.length_range] at h1;simp[negU,h1]
def A0 (n:Nat):List Int:=(negU n n).set 0 0
theorem it_get (A:List Int) {n:Nat} (h:n<A.length):(itC A)[n]? =some (.int .i64 (A.getD n 0)):=by
 rw[List.getElem?_map,List.getElem?_eq_getElem h,List.getD_eq_getElem?_getD,List.getElem?_eq_getElem h];rfl
theorem in_get {C:Cd} {i:Nat} (h:i<C.length):((C.flatMap insC).drop (i*3)).take 3=insC (C.getD i dI)∧i*3+3≤(C.flatMap insC).length:=by
 induction C generalizing i with
 |nil=>simp at h
 |cons x C ih=>
  cases i with
  |zero=>exact⟨rfl,by rw[ins_len];simp only[List.length_cons];omega⟩
  |succ i=>
   obtain⟨h1,h2⟩:=ih (i:=i) (by simpa using h);refine⟨?_,by rw[ins_len];simp only[List.length_cons] at h ⊢;omega⟩;rw[List.flatMap_cons,show (i+1)*3=i*3+3 by omega];exact h1
set_option maxRecDepth 100000
set_option maxHeartbeats 1000000
section
variable {P:Program} {ops:Array Oper} {d:Bool} {acc:List Row} {os:List Oper} {env:List V} {n:Nat} {L:Hp} {R:Post}
theorem RegX.slO (ans:List Ans) {dst:Option Tmp} {ty:TypeId} {x:Operand} {lo hi mx:Option Operand} {t:TypeId} {pos:String} {af:Array Edge} {gd:Option (Nat×Bool)} {foot:List Nat} {v:V} {wr:Hp} {n':Nat} {an:List Ans} {C:Prop}
 (hw:want ops env ⟨dst,.slice ty x lo hi mx,t,pos,af,gd⟩=some true) (h:aop P ⟨dst,.slice ty x lo hi mx,t,pos,af,gd⟩ env n L ans=some ⟨⟨foot,v,wr,n'⟩,an,C⟩) (hC:C)
 (k:RegX P ops d (pushR d ⟨dst,.slice ty x lo hi mx,t,pos,af,gd⟩ foot wr acc) os (setD env dst v) n' (puts L wr) R):RegX P ops d acc (⟨dst,.slice ty x lo hi mx,t,pos,af,gd⟩::os) env n L R:=RegX.opA ans hw h hC k
theorem RegX.max3 {dst:Option Tmp} {x y z:Operand} {ts:Array TypeId} {t:TypeId} {pos:String} {af:Array Edge} {gd:Option (Nat×Bool)} {k1:IntKind} {a b c:Int} (hx:ev env x=.s (.int k1 a)) (hy:ev env y=.s (.int k1 b)) (hz:ev env z=.s (.int k1 c))
 (hw:want ops env ⟨dst,.call ⟨.builtin .max,#[x,y,z],ts⟩,t,pos,af,gd⟩=some true) (k:RegX P ops d (pushR d ⟨dst,.call ⟨.builtin .max,#[x,y,z],ts⟩,t,pos,af,gd⟩ [] [] acc) os (setD env dst (.s (.int k1 (max (max a b) c)))) n L R):
 RegX P ops d acc (⟨dst,.call ⟨.builtin .max,#[x,y,z],ts⟩,t,pos,af,gd⟩::os) env n L R:=by
 refine RegX.op (foot:=[]) (wr:=[]) hw (OpL.light fun φ a1 w hop' _=>?_) (Nat.le_refl _) k;have g1:=hop' x (by simp[Op.operands,Call.operands]);have g2:=hop' y (by simp[Op.operands,Call.operands]);have g3:=hop' z (by simp[Op.operands,Call.operands]);rw[hx] at g1;rw[hy] at g2;rw[hz] at g3;simp only[Vr,Sr] at g1 g2 g3;refine⟨.int k1 (max (max a b) c),?_,rfl⟩
 have e1:max (max a b) c=if c>(if b>a then b else a) then c else (if b>a then b else a):=by
  have h1:max a b=if b>a then b else a:=by
   rw[Int.max_def];split<;>split<;>omega
  rw[h1,Int.max_def];split<;>split<;>(try split)<;>omega
 simp only[execOp,resolve,Sem.run_bind,Sem.run_pure,Result.andThen_ok,invoke,builtin,List.map_toArray,List.map_cons,List.map_nil,g1,g2,g3];rw[e1];simp[Builtin.max_,Builtin.max2]
end
theorem Ex.canonR {P:Program} {b n:Nat} {env:List V} {L:Hp} {R:Post} (id:Nat) {ops:Array Oper} {d:Bool} (tbl:List Nat) (N:Nat) (X:List (Nat×V)) (H:Hp) {E:List V} (hE:frcE (mkE X 0 N) [] some=some E) (h1:env.length=N) (h2:XLe env (renX (rn tbl 0) X)) (h3:MemP (rn tbl 0) L H) (h4:okSt b tbl (mkE X 0 N) H=true)
 (k:Ex P b (.region id ops d) E tbl.length H R):Ex P b (.region id ops d) env n L R:=Ex.canon tbl N X H hE h1 h2 h3 h4 k
theorem ld_int {cs:List S} {bl:Bl} {o sz i:Nat} {x:S} (hb:bl.kind=none) (hc:bl.cells=cs) (hx:cs[i]? =some x) (ho:o=i):ldAt false sz bl o=some (.s x):=by
 unfold ldAt;rw[hb,hc,ho,hx]
theorem ld_agg {cs:List S} {bl:Bl} {o sz i:Nat} {l:List S} (hb:bl.kind=none) (hc:bl.cells=cs) (hl:i+sz≤cs.length) (hx:(cs.drop i).take sz=l) (ho:o=i):ldAt true sz bl o=some (.agg l):=by
 unfold ldAt;rw[hb,hc,ho,hx];simp only;rw[Nat.ble_eq_true_of_le hl]
theorem depB_nil {C:Cd} {f:Nat} {A:List Int} {m:Int}:depB C (f+1) A [] m=(m,true):=rfl
theorem depB_step {C:Cd} {f i:Nat} {A:List Int} {W:List Nat} {m:Int}:depB C (f+1) A (W++[i]) m=
 if (effB (C.getD i dI).op (C.getD i dI).int).2.2=false∨A.getD i 0<(effB (C.getD i dI).op (C.getD i dI).int).1 then (0,false)
 else match tgtB C.length (A.getD i 0-(effB (C.getD i dI).op (C.getD i dI).int).1+(effB (C.getD i dI).op (C.getD i dI).int).2.1) (sucB (C.getD i dI) i) A W with
  |none=>(0,false)
  |some (A',W')=>depB C f A' W' (max (max m (A.getD i 0)) (A.getD i 0-(effB (C.getD i dI).op (C.getD i dI).int).1+(effB (C.getD i dI).op (C.getD i dI).int).2.1)):=by
 conv=>lhs;unfold depB
 rw[List.getLast?_concat,List.dropLast_concat]<;>rfl
theorem tgtB_cons {N:Nat} {a:Int} {z:Nat} {zs:List Int} {A:List Int} {W:List Nat}:tgtB N a ((z:Int)::zs) A W=if N≤z then none else if A.getD z 0<0 then tgtB N a zs (A.set z a) (W++[z]) else if A.getD z 0=a then tgtB N a zs A W else none:=by
 show (if (N:Int)≤(z:Int) then _ else _)=_;by_cases h:N≤z
 ·rw[if_pos h,if_pos (by omega)]
 ·rw[if_neg h,if_neg (by omega)]
  rfl
theorem DOK.pop {N:Nat} {A:List Int} {W:List Nat} {i:Nat} (h:DOK N A (W++[i])):DOK N A W:=⟨h.len,fun j hj=>h.w j (List.mem_append_left _ hj)⟩
theorem negs_rep (n:Nat):negs (A0 n)≤n:=by
 have:=negs_le (A0 n);unfold A0 at*;rw[List.length_set,negU_len] at this;exact this
def jmp (x:Ins):Prop:=x.op=24∨x.op=25
def JOK (C:Cd):Prop:=∀ x∈C,jmp x→x.int≤C.length
theorem JOK.em {C:Cd} (h:JOK C) {op n:Int} {s:By} (hn:op=24∨op=25→n≤C.length):JOK (em C op n s):=by
 intro x hx hj;unfold Go.Proofs.YtbokilgdefkmiaaGreatDoor.em at hx ⊢;rw[List.length_append]
 rcases List.mem_append.1 hx with hx|hx
 ·have:=h x hx hj;push_cast;omega
 ·rw[List.mem_singleton] at hx;subst hx
  have:=hn hj;push_cast;omega
theorem JOK.em' {C:Cd} (h:JOK C) {op n:Int} {s:By} (hn:op≠24∧op≠25):JOK (Go.Proofs.YtbokilgdefkmiaaGreatDoor.em C op n s):=h.em fun q=>by omega
theorem JOK.pat {C:Cd} (h:JOK C) {j:Nat} {z:Int} (hz:z≤C.length):JOK (pat C j z):=by
 intro x hx hj;unfold Go.Proofs.YtbokilgdefkmiaaGreatDoor.pat at hx ⊢;rw[List.length_set]
 rcases List.mem_or_eq_of_mem_set hx with hx|rfl
 ·exact h x hx hj
 ·exact hz
theorem em_len (C:Cd) (op n:Int) (s:By):(em C op n s).length=C.length+1:=by simp[em]
theorem pat_len (C:Cd) (j:Nat) (z:Int):(pat C j z).length=C.length:=by simp[pat]
def CO (C D:Cd):Prop:=JOK D∧C.length≤D.length
theorem CO.ite {C a b:Cd} {p:Prop} [Decidable p] (h1:CO C a) (h2:CO C b):CO C (if p then a else b):=by
 by_cases h:p
 ·rw[if_pos h];exact h1
 ·rw[if_neg h];exact h2
theorem CO.ite1 {C:Cd} {a b:Cd×List Nat} {p:Prop} [Decidable p] (h1:CO C a.1) (h2:CO C b.1):CO C (if p then a else b).1:=by
 by_cases h:p
 ·rw[if_pos h];exact h1
 ·rw[if_neg h];exact h2
theorem opr_ok {C:Cd} (h:JOK C) (op:Int):JOK (opr op C)∧C.length≤(opr op C).length:=by
 show CO C _;unfold opr
 repeat' with_reducible refine CO.ite ?_ ?_
 all_goals exact⟨h.em' (by decide),by rw[em_len];omega⟩
theorem expE_ok {x:Nd} {k:Fo} {C c0 c1 c2 c5 c6:Cd} (h:JOK C) (h0:JOK c0∧C.length≤c0.length) (h1:JOK c1∧C.length≤c1.length) (h2:JOK c2∧C.length≤c2.length) (h5:JOK c5∧C.length≤c5.length) (h6:JOK c6∧C.length≤c6.length):
 JOK (expE x k C c0 c1 c2 c5 c6)∧C.length≤(expE x k C c0 c1 c2 c5 c6).length:=by
 have hq:=opr_ok h0.1 x.op;show CO C _;unfold expE
 repeat' with_reducible refine CO.ite ?_ ?_
 all_goals first
  |exact⟨h.em' (by decide),by rw[em_len];omega⟩
  |exact⟨h0.1.em' (by decide),by rw[em_len];omega⟩
  |exact⟨h5.1.em' (by decide),by rw[em_len];omega⟩
  |exact⟨h6.1.em' (by decide),by rw[em_len];omega⟩
  |exact h1
  |exact h2
  |exact⟨hq.1,by omega⟩
theorem refE_ok {x:Nd} {C c0 c4:Cd} (h:JOK C) (h0:JOK c0∧C.length≤c0.length) (h4:JOK c4∧C.length≤c4.length):JOK (refE x C c0 c4)∧C.length≤(refE x C c0 c4).length:=by
 have hq:=opr_ok h0.1 76;show CO C _;unfold refE
 repeat' with_reducible refine CO.ite ?_ ?_
 all_goals first
  |exact⟨h.em' (by decide),by rw[em_len];omega⟩
  |exact h4
  |exact⟨hq.1,by omega⟩
theorem typE_ok {x:Nd} {C c0 c4:Cd} (h:JOK C) (h0:JOK c0∧C.length≤c0.length) (h4:JOK c4∧C.length≤c4.length):JOK (typE x C c0 c4)∧C.length≤(typE x C c0 c4).length:=by
 have hq:CO C (if x.op=84 then c4 else opr 76 c0):=CO.ite h4 ⟨(opr_ok h0.1 76).1,by have:=(opr_ok h0.1 76).2;omega⟩;show CO C _;unfold typE;generalize (if x.op=84 then c4 else opr 76 c0)=q at*
 repeat' with_reducible refine CO.ite ?_ ?_
 all_goals first
  |exact⟨h.em' (by decide),by rw[em_len];omega⟩
  |exact⟨(h.em' (by decide)).em' (by decide),by rw[em_len,em_len];omega⟩
  |exact⟨(hq.1.em' (by decide)).em' (by decide),by rw[em_len,em_len];have:=hq.2;omega⟩
theorem cod_ok:∀ (t:Fo) (m:Nat) (C:Cd),JOK C→JOK (cod m t C)∧C.length≤(cod m t C).length:=by
 intro t
 induction t with
 |nil=>intro m C h;cases m<;>exact⟨h,Nat.le_refl _⟩
 |cons x k n ik im=>
  intro m C h;have hE:=expE_ok (x:=x) (k:=k) h (ik 0 C h) (ik 1 C h) (ik 2 C h) (ik 5 C h) (ik 6 C h)
  have hn:∀ m D,JOK D∧C.length≤D.length→JOK (cod m n D)∧C.length≤(cod m n D).length:=fun m D hD=>by
   have:=im m D hD.1;exact⟨this.1,by omega⟩
  rw[cod_cons];split
  ·exact refE_ok h (ik 0 C h) (ik 4 C h)
  ·split
   ·exact typE_ok h (ik 0 C h) (ik 4 C h)
   ·split
    ·exact im 0 C h
    ·split
     ·exact im 7 C h
     ·split
      ·exact ik 3 C h
      ·split
       ·refine hn 3 _ ?_
        split
        ·exact⟨h.em' (by decide),by rw[em_len];omega⟩
        ·exact hE
       ·split
        ·exact hE
        ·exact hn 0 _ hE
def SOKf (f:Stm):Prop:=∀ lp C B,JOK C→lp≤(C.length:Int)→JOK (f lp C B).1∧C.length≤(f lp C B).1.length
theorem pats_ok (z:Nat):∀ (B:List Nat) (D:Cd),JOK D→z≤D.length→JOK (B.foldl (fun D j=>pat D j (z:Nat)) D)∧(B.foldl (fun D j=>pat D j (z:Nat)) D).length=D.length
 |[],D,h,_=>⟨h,rfl⟩
 |j::B,D,h,hz=>by
  have:=pats_ok z B (pat D j z) (h.pat (by omega)) (by rw[pat_len];exact hz);rw[pat_len] at this;exact this
theorem sto_ok {t:Fo} {C:Cd} (h:JOK C):JOK (sto t C)∧C.length≤(sto t C).length:=by
 have h1:=cod_ok t 1 C h;show CO C _;unfold sto
 repeat' with_reducible refine CO.ite ?_ ?_
 all_goals first
  |exact⟨h.em' (by decide),by rw[em_len];omega⟩
  |exact⟨h1.1.em' (by decide),by rw[em_len];omega⟩
theorem stE_ok {x:Nd} {k:Fo} {f1 f3:Stm} (h1:SOKf f1) (h3:SOKf f3):SOKf (stE x k f1 f3):=by
 intro lp C B h hl;have c4:=cod_ok k 4 C h;have c0:=cod_ok k 0 C h;have c5:=cod_ok k 5 C h;have hE:=expE_ok (x:=x) (k:=k) h (cod_ok k 0 C h) (cod_ok k 1 C h) (cod_ok k 2 C h) (cod_ok k 5 C h) (cod_ok k 6 C h)
 have e1:JOK (em (cod 4 k C) 25 0 []):=c4.1.em fun _=>by omega
 have l1:=em_len (cod 4 k C) 25 0 [];have r1:=h1 lp (em (cod 4 k C) 25 0 []) B e1 (by omega);show CO C _;unfold stE;refine CO.ite1 ?_ (CO.ite1 (CO.ite1 ?_ ?_) (CO.ite1 ?_ ?_))
 ·have:=sto_ok (t:=k.tl) c4.1
  exact⟨this.1,by simp only;omega⟩
 ·exact⟨r1.1.pat (Int.le_refl _),by simp only[pat_len];omega⟩
 ·generalize f1 lp (em (cod 4 k C) 25 0 []) B=R3 at*
  have e2:JOK (pat (em R3.1 24 0 []) (cod 4 k C).length (R3.1.length+1:Nat)):=(r1.1.em fun _=>by omega).pat (by rw[em_len];exact Int.le_refl _)
  have l2:(pat (em R3.1 24 0 []) (cod 4 k C).length (R3.1.length+1:Nat)).length=R3.1.length+1:=by rw[pat_len,em_len]
  have r3:=h3 lp _ R3.2 e2 (by omega);exact⟨r3.1.pat (Int.le_refl _),by simp only[pat_len];omega⟩
 ·have r2:=h1 C.length (em (cod 4 k C) 25 0 []) [(cod 4 k C).length] e1 (by omega)
  generalize f1 C.length (em (cod 4 k C) 25 0 []) [(cod 4 k C).length]=R3 at*
  have e2:JOK (em R3.1 24 C.length []):=r2.1.em fun _=>by omega
  have:=pats_ok (R3.1.length+1) R3.2 _ e2 (by rw[em_len];omega);exact⟨this.1,by simp only[this.2,em_len];omega⟩
 ·repeat' with_reducible refine CO.ite1 ?_ ?_
  all_goals first
   |exact⟨h.em' (by decide),by simp only[em_len];omega⟩
   |exact⟨c0.1.em' (by decide),by simp only[em_len];omega⟩
   |exact⟨c4.1.em' (by decide),by simp only[em_len];omega⟩
   |exact⟨c5.1.em' (by decide),by simp only[em_len];omega⟩
   |exact⟨hE.1.em' (by decide),by simp only[em_len];omega⟩
   |exact⟨h.em fun _=>by omega,by simp only[em_len];omega⟩
   |exact⟨h.em fun _=>hl,by simp only[em_len];omega⟩
theorem stm_ok:∀ (t:Fo) (m:Nat),SOKf (stmC m t):=by
 intro t
 induction t with
 |nil=>intro m lp C B h _;cases m<;>exact⟨h,Nat.le_refl _⟩
 |cons x k n ik im=>
  intro m lp C B h hl;rw[stmC_cons];split
  ·exact im 2 lp C B h hl
  ·split
   ·exact ik 0 lp C B h hl
   ·split
    ·exact im 1 lp C B h hl
    ·have h1:=stE_ok (x:=x) (k:=k) (ik 1) (ik 3) lp C B h hl
     have h2:=im 0 lp _ (stE x k (stmC 1 k) (stmC 3 k) lp C B).2 h1.1 (by omega);exact⟨h2.1,by omega⟩
def metC (t:Fo):Cd:=em (stmC 0 t 0 [] []).1 28 0 []
theorem met_jmp (t:Fo):∀ x∈metC t,jmp x→x.int<(metC t).length:=by
 have h:=stm_ok t 0 0 [] [] (fun x hx=>by cases hx) (by simp);intro x hx hj;unfold metC em at hx ⊢;rw[List.length_append]
 rcases List.mem_append.1 hx with hx|hx
 ·have:=h.1 x hx hj
  simp only[List.length_cons,List.length_nil];push_cast;omega
 ·rw[List.mem_singleton] at hx;subst hx
  unfold jmp at hj;simp at hj
theorem met_last (t:Fo):(metC t).getLast? =some ⟨28,0,[]⟩:=by simp[metC,em]
end Go.Proofs.YtbokilgdefkmiaaGreatDoor
