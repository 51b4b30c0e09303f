import Derived.Test.YtbokilgdefkmiaaGreatDoorCzB14
set_option linter.unusedSimpArgs false
set_option linter.unusedVariables false
namespace Go.Proofs.YtbokilgdefkmiaaGreatDoor
namespace Ab
open Go
theorem fz_core {φ:Ph} {L:Hp} {w:World} (h2:Good φ L w) (get:Nat→List S) (sz:Nat) {i N:Nat} {bl:Bl} (hl:lk L i=some bl) (hro:bl.ro=false) (hk:bl.kind=none)
 (hg:∀ k,k<N→(get k).length=sz) (hc:∀ k j x,k<N→(get k)[j]? =some x→bl.cells[k*sz+j]? =some x∧pureS x=true):
 ∃ φ':Ph,φ'.f=φ.f∧φ.le φ'∧(∀ b l,φ'.z b=some l→φ.z b=some l∨Wr φ L b)∧Good φ' (put L i none) w∧(∀ v x,sliceOf v=some (i,N)→Vr φ v x→Vr φ' (.s (.frz get sz N)) x):=by
 obtain⟨b0,hb0,pre,xs,rest,fr,p1,hp,p2,p3,p4,p5⟩:=h2.hr i bl hl;rw[hk] at p1;simp only[objOf] at p1
 let φ':Ph:=⟨φ.f,fun x=>if x=b0.1 then some (pre++(xs++rest)) else φ.z x⟩
 have hz0:φ.z b0.1=none:=by
  cases e:φ.z b0.1 with
  |none=>rfl
  |some l=>exact absurd ⟨i,bl,b0,hl,hb0,rfl,hro⟩ (h2.fz b0.1 l e).2
 have zle:∀ x l,φ.z x=some l→φ'.z x=some l:=by
  intro x l hx;simp only[φ'];split
  ·rename_i e;subst e;rw[hz0] at hx;cases hx
  ·exact hx
 have hle:φ.le φ':=⟨fun _ _ h=>h,zle⟩
 have hlt:b0.1<w.heap.size:=by
  rcases Nat.lt_or_ge b0.1 w.heap.size with h|h
  ·exact h
  ·simp[Array.getElem?_eq_none h] at p1
 have sub:Sub (put L i none) L:=by
  intro j bj hj;rw[lk_put] at hj;split at hj
  ·cases hj
  ·exact hj
 have good':Good φ' (put L i none) w:=by
  refine⟨fun j bj hj=>?_,fun j j' bj bj' c c' hj hj' hc hc' hcc=>h2.inj j j' bj bj' c c' (sub j bj hj) (sub j' bj' hj') hc hc' hcc,fun x l hx=>?_,h2.gz.mono zle⟩
  ·obtain⟨c,hc,hat⟩:=h2.hr j bj (sub j bj hj)
   exact⟨c,hc,hat.mono hle rfl⟩
  ·by_cases e:x=b0.1
   ·subst e
    simp only[φ',if_true,Option.some.injEq] at hx;subst hx;refine⟨⟨bl.ty,fr,p1⟩,?_⟩;rintro⟨j,bj,c,hj,hc,hcb,hroj⟩;have hj':=sub j bj hj
    rcases h2.inj j i bj bl c b0 hj' hl hc hb0 hcb with rfl|⟨e,_⟩
    ·rw[lk_put,if_pos rfl] at hj;cases hj
    ·rw[e] at hroj;cases hroj
   ·simp only[φ',if_neg e] at hx
    exact⟨(h2.fz x l hx).1,fun hw=>(h2.fz x l hx).2 (Wr.sub sub (by obtain⟨j,bj,c,hj⟩:=hw;exact⟨j,bj,c,hj⟩))⟩
 have hfz:∀ m kk,m≤N→m≤kk→Sr φ' (.frz get sz m) (.slice (some ⟨b0.1,b0.2,none⟩) m kk):=by
  intro m kk hm hmk;refine .frz get sz m b0.1 b0.2 kk (pre++(xs++rest)) (by simp[φ']) hmk (fun k j=>xs.getD (k*sz+j) Go.undef) (fun k hk=>hg k (by omega)) (fun k j x hk hx=>?_) (fun k j x hk hx=>?_)
  ·obtain⟨e,_⟩:=hc k j x (by omega) hx
   obtain⟨v,hv,_⟩:=p2.get e
   have hlx:k*sz+j<xs.length:=by
    rcases Nat.lt_or_ge (k*sz+j) xs.length with h|h
    ·exact h
    ·simp[List.getElem?_eq_none h] at hv
   rw[Nat.add_comm b0.2,pre_get pre _ hp,List.getElem?_append_left hlx,List.getD_eq_getElem?_getD,hv];rfl
  ·obtain⟨e,hpx⟩:=hc k j x (by omega) hx
   obtain⟨v,hv,hs⟩:=p2.get e;rw[List.getD_eq_getElem?_getD,hv,Option.getD_some];exact ((hs.mono (bl.ph_le_self φ)).mono hle).pr hpx
 refine⟨φ',rfl,hle,fun x l hx=>?_,good',fun v x ht hv=>?_⟩
 ·by_cases e:x=b0.1
  ·subst e;exact .inr ⟨i,bl,b0,hl,hb0,rfl,hro⟩
  ·simp only[φ',if_neg e] at hx;exact .inl hx
 ·unfold sliceOf at ht
  split at ht
  ·cases ht
   obtain⟨b1,kk,hb1,_,e,hmk⟩:=hv;rw[hb0] at hb1;cases hb1;rw[e];exact hfz _ kk (Nat.le_refl _) hmk
  ·cases ht
   obtain⟨b1,kk,hb1,e,hmk,_⟩:=hv;rw[hb0] at hb1;cases hb1;rw[e,Nat.zero_add];exact hfz _ kk (Nat.le_refl _) hmk
  ·cases ht
   rcases hv with ⟨rfl,e⟩|⟨_,b1,kk,hb1,_,e,hmk⟩
   ·rw[e];exact .nil _ _ _ _ (fun _=>rfl)
   ·rw[hb0] at hb1;cases hb1
    rw[e];exact hfz _ kk (Nat.le_refl _) hmk
  ·cases ht
theorem OpL.preFz {P:Program} {o:Oper} {env:List V} {n n':Nat} {M M':Hp} {v:V} (t:Nat) (get:Nat→List S) (sz:Nat) {i N:Nat} {bl:Bl} (ht:sliceOf (env.getD t .undef)=some (i,N)) (hl:lk M i=some bl) (hro:bl.ro=false) (hk:bl.kind=none)
 (hg:∀ k,k<N→(get k).length=sz) (hc:∀ k j x,k<N→(get k)[j]? =some x→bl.cells[k*sz+j]? =some x∧pureS x=true)
 (h:OpL P o (env.set t (.s (.frz get sz N))) n (put M i none) v n' M'):OpL P o env n M v n' M':=by
 intro φ a w Q hx hM hf;obtain⟨φ',e1,hle,hz,hg',hs⟩:=fz_core hM get sz (i:=i) (N:=N) hl hro hk hg hc
 have sub:Sub (put M i none) M:=by
  intro j bj hj;rw[lk_put] at hj;split at hj
  ·cases hj
  ·exact hj
 have wsub:∀ b,Wr φ' (put M i none) b→Wr φ M b:=fun b hw=>by
  obtain⟨j,bj,c,hj,hc,h⟩:=hw;exact⟨j,bj,c,sub _ _ hj,by rw[e1] at hc;exact hc,h⟩
 have tlt:t<env.length:=by
  rcases Nat.lt_or_ge t env.length with h|h
  ·exact h
  ·rw[List.getD_eq_getElem?_getD,List.getElem?_eq_none h] at ht;cases ht
 have hx':∀ x∈o.op.operands,Vr φ' (ev (env.set t (.s (.frz get sz N))) x) (a.eval x):=by
  intro x hxo;have h0:=hx x hxo;by_cases e:x=.tmp t
  ·subst e
   have e2:ev (env.set t (.s (.frz get sz N))) (.tmp t)=.s (.frz get sz N):=by
    show (env.set t _).getD t .undef=_;simp[List.getD_eq_getElem?_getD,tlt]
   rw[e2];exact hs _ _ ht h0
  ·have e2:ev (env.set t (.s (.frz get sz N))) x=ev env x:=by
    cases x with
    |tmp s=>
     have hne: ¬t=s:=fun h=>e (by rw[h])
     show (env.set t _).getD s .undef=env.getD s .undef;simp[List.getD_eq_getElem?_getD,List.getElem?_set_ne hne]
    |_=>rfl
   rw[e2];exact Vr.mono hle h0
 refine Oper.wp_mono ?_ (h φ' a w Q hx' hg' (fun j h1 h2=>by rw[e1];exact hf j h1 h2));rintro a' w' ⟨φ2,x,q1,q2,q3,q4,q5⟩;refine⟨φ2,x,q1,q2,q3,⟨q4.os,q4.tape,q4.output,q4.size,fun b hb hn=>q4.keep b hb fun hw=>hn (wsub b hw),fun j bl1 b hj hb hlt=>?_,fun b l hb=>q4.zle b l (hle.z b l hb),fun b l hb=>?_⟩,fun j hj=>(q5 j hj).trans (by rw[e1])⟩
 ·obtain⟨k,bl',c,hk',hc',r⟩:=q4.fresh j bl1 b hj hb hlt
  exact⟨k,bl',c,sub _ _ hk',by rw[e1] at hc';exact hc',r⟩
 ·rcases q4.zfr b l hb with q|q|q
  ·rcases hz b l q with q|q
   ·exact .inl q
   ·exact .inr (.inr q)
  ·exact .inr (.inl q)
  ·exact .inr (.inr (wsub b q))
section
variable {P:Program} {ops:Array Oper} {d:Bool} {acc:List Row} {os:List Oper} {o:Oper} {env:List V} {n:Nat} {L:Hp} {R:Post} {f:FuncId} {xs:Array Operand}
theorem CallG.pz (t:Nat) (get:Nat→List S) (sz:Nat) {args:List V} {v:V} (sc:FC P f args 0 [] v 0 []) {i N:Nat} {bl:Bl} (ht:sliceOf (env.getD t .undef)=some (i,N)) (hl:lk L i=some bl) (hro:bl.ro=false) (hk:bl.kind=none)
 (hg:∀ k,k<N→(get k).length=sz) (hc:∀ k j x,k<N→(get k)[j]? =some x→bl.cells[k*sz+j]? =some x∧pureS x=true)
 {args1:List V} (ha:xs.toList.map (ev (env.set t (.s (.frz get sz N))))=args1) (hle:All2 VLe args1 args) (h1:args.all (okV 0)=true) (h2:okV 0 v=true)
 (hw:want ops env o=some true) (k:RegX P ops d (pushR d o [i] [(i,none)] acc) os (setD env o.dst v) n (puts L [(i,none)]) R):CallG P ops d acc o f xs os env n L R:=by
 refine⟨fun⟨ts,ho⟩=>?_⟩;obtain⟨hf,sc⟩:=sc;unfold fnOK at hf;split at hf
 ·rename_i fn hfn
  simp only[Bool.and_eq_true,Bool.not_eq_true'] at hf;have h:=SC.opW (tbl:=[]) (n:=n) (env:=env.set t (.s (.frz get sz N))) (M:=[]) (M':=[]) sc h1 rfl ho rfl hfn hf.1 hf.2 (by rw[ha,renVs_id h1];exact hle) fits_nil (fun x bl h=>by simp[lk] at h);rw[renV_id h2] at h
  have e1:lk (res [i] L) i=some bl:=by rw[lk_res];simp[hl]
  refine RegX.op (foot:=[i]) (wr:=[(i,none)]) hw ?_ (Nat.le_refl _) k;refine OpL.preFz t get sz ht e1 hro hk hg hc ?_;refine OpL.conv (M:=[]) (M':=[]) (fun x hx=>VLe.refl _) (fun j=>?_) (VLe.refl _) (fun j bl hj=>?_) h
  ·show lk (put (res [i] L) i none) j=lk [] j
   rw[lk_put,lk_res];simp only[List.mem_singleton];by_cases e:i=j
   ·rw[if_pos e];rfl
   ·rw[if_neg e,if_neg (fun h=>e h.symm)];rfl
  ·have hj:lk (put (res [i] L) i none) j=some bl:=hj
   rw[lk_put,lk_res] at hj;simp only[List.mem_singleton] at hj;by_cases e:i=j
   ·rw[if_pos e] at hj;cases hj
   ·rw[if_neg e,if_neg (fun h=>e h.symm)] at hj;cases hj
 ·cases hf
end
end Ab
end Go.Proofs.YtbokilgdefkmiaaGreatDoor
namespace Go.Proofs.YtbokilgdefkmiaaGreatDoor
open Go Ab
set_option maxRecDepth 100000
set_option maxHeartbeats 1000000
abbrev nS (p:List Nd):S:=.frz (fun k=>ndC (p.getD k dN)) 4 p.length
def kidF (K:List (List Nd)):S:=.frz (fun k=>[nS (K.getD k [])]) 1 K.length
def ndS:List Nd→S
 |_::_::l=> .sla 0 1 (l.length+2)
 |_=> .slc (some (0,0)) 1 (some 1)
def ndQ:List Nd→Bl
 |x::y::l=>{cells:=(x::y::l).flatMap ndC,ty:=31,more:=true,sym:=true,flat:=true,gh:=some (1,4)}
 |x::[]=>{cells:=ndC x,ty:=31,flat:=true}
 |[]=>{cells:=[],ty:=31}
theorem nd_len:∀ G:List Nd,(G.flatMap ndC).length=G.length*4
 |[]=>rfl
 |x::G=>by rw[List.flatMap_cons,List.length_append,nd_len G];simp only[List.length_cons];simp[ndC];omega
theorem nd_flat (G:List Nd):flatG (fun k=>ndC (G.getD k dN)) G.length=G.flatMap ndC:=by
 rw[flatG_list]
theorem nd_fit (bl:Bl) (r:List Nd):fitsIn bl (r.flatMap ndC)=true:=by
 have h1:∀ r:List Nd,(r.flatMap ndC).all noPtr=true:=by
  intro r
  induction r with
  |nil=>rfl
  |cons x r ih=>rw[List.flatMap_cons,List.all_append,ih];rfl
 have h2:∀ r:List Nd,(r.flatMap ndC).all nJ=true:=by
  intro r
  induction r with
  |nil=>rfl
  |cons x r ih=>rw[List.flatMap_cons,List.all_append,ih];rfl
 unfold fitsIn;split
 ·exact h1 r
 ·exact h2 r
theorem nd_cell {G:List Nd} {k j:Nat} {x:S} (hk:k<G.length) (hx:(ndC (G.getD k dN))[j]? =some x):(G.flatMap ndC)[k*4+j]? =some x∧pureS x=true:=by
 induction G generalizing k with
 |nil=>simp at hk
 |cons y G ih=>
  cases k with
  |zero=>
   rw[List.flatMap_cons]
   match j,hx with
   |0,hx=>cases hx;exact⟨rfl,rfl⟩
   |1,hx=>cases hx;exact⟨rfl,rfl⟩
   |2,hx=>cases hx;exact⟨rfl,rfl⟩
   |3,hx=>cases hx;exact⟨rfl,rfl⟩
   |_+4,hx=>cases hx
  |succ k=>
   have:=ih (k:=k) (by simpa using hk) (by simpa using hx);rw[List.flatMap_cons,show (k+1)*4+j=(k*4+j)+4 by omega];exact this
theorem nd_one {x:Nd} {k j:Nat} {s:S} (hk:k<1) (hx:(ndC ([x].getD k dN))[j]? =some s):(ndC x)[k*4+j]? =some s∧pureS s=true:=by
 have:=nd_cell (G:=[x]) (k:=k) (j:=j) (x:=s) hk hx
 simpa using this
theorem node_f (op n:Int) (s:By) (K:List (List Nd)) (hK:∀ r∈K,r≠[]) (hn:(K.flatten).length≤1000000000000) (hk:K.length≤4096):
 FC Tryz.prog 48 [nI op,.s (.int .u64 n),sV s,.s (kidF K)] 0 [] (nodes (⟨op,n,s,K.length⟩::K.flatten)) 0 []:=by
 have hsz:(Tryz.prog.types[31]).size=4:=by kernel_rfl
 have hby:(Tryz.prog.types[31]).bytes=40:=by kernel_rfl
 unfold kidF;generalize hT:(⟨op,n,s,K.length⟩::K.flatten:List Nd)=T;refine FC.walk (by kernel_rfl) Tryz.func48 rfl rfl ?_
 repeat'(first|exact y0|refine y1 ?_|refine y2 ?_ ?_|(refine y8 ?_ ?_<;>intro h<;>try exact y6)|refine y3 ?_|refine y7 ?_ ?_|refine y4 ?_|(refine y9 ?_ ?_<;>intro h)|exact y5|fail)
 refine Ex.flat 0 rfl rfl rfl rfl (Ex.set 17 .any (VLe.any _) rfl (Ex.upN (n':=2) (by omega) ?_));refine Ex.inv (σ:=Nat×List Nd) (fun q=>[(10,nI q.1),(9,.s (ndS q.2))]) (fun q=>[(0,some (ndQ q.2))]) (fun q=>q.1≤K.length∧q.2++(K.drop q.1).flatten=T∧q.2≠[]) (fun q=>K.length-q.1) (0,[⟨op,n,s,K.length⟩]) rfl (fun _=>rfl) ?_ ?_ ?_ ?_
 ·exact⟨Nat.zero_le _,by simpa using hT,by simp⟩
 ·exact⟨VLe.refl _,VLe.refl _,trivial⟩
 ·exact⟨rfl,trivial⟩
 ·rintro⟨j,Q⟩ ⟨h1,h2,h3⟩
  simp only at h1 h2 h3 ⊢
  have hTl:T.length≤1000000000001:=by rw[←hT];simp only[List.length_cons];omega
  rcases Nat.lt_or_ge j K.length with hj|hj
  ·have hd:K.drop j=K.getD j []::K.drop (j+1):=by
    rw[List.drop_eq_getElem_cons hj,List.getD_eq_getElem?_getD,List.getElem?_eq_getElem hj];rfl
   have hr:K.getD j []≠[]:=hK _ (by rw[List.getD_eq_getElem?_getD,List.getElem?_eq_getElem hj];exact List.getElem_mem hj);rw[hd,List.flatten_cons,←List.append_assoc] at h2;have hrl:0<(K.getD j []).length:=List.length_pos_iff.2 hr
   have hlen:Q.length+(K.getD j []).length≤1000000000001:=by
    rw[←h2] at hTl;simp only[List.length_append] at hTl;omega
   match Q,h3 with
   |[x],_=>
    repeat'(first|exact y0|refine y1 ?_|refine y2 ?_ ?_|(refine y8 ?_ ?_<;>intro h<;>try exact y6)|refine y3 ?_|refine y7 ?_ ?_|refine y4 ?_|(refine y9 ?_ ?_<;>intro h)|exact y5|fail)
    generalize K.getD j []=r at*;obtain⟨z,r,rfl⟩:=List.exists_cons_of_ne_nil hr;simp only[List.length_cons,List.length_nil] at hlen;refine RegX.app [.app (1+(r.length+1)) (([x]++z::r).flatMap ndC)] rfl rfl ?_ rfl rfl rfl ?_
    ·refine⟨?_,trivial,rfl,rfl,?_,?_,(fun h=>by simp),?_,?_⟩
     ·rw[hsz];rfl
     ·rw[hsz,nd_flat];rfl
     ·rw[nd_flat];exact nd_fit _ _
     ·rw[hby];omega
     ·omega
    repeat'(first|exact y0|refine y1 ?_|refine y2 ?_ ?_|(refine y8 ?_ ?_<;>intro h<;>try exact y6)|refine y3 ?_|refine y7 ?_ ?_|refine y4 ?_|(refine y9 ?_ ?_<;>intro h)|exact y5|fail)
    all_goals try omega
    refine LoopR.move (j+1,[x]++z::r) ⟨hj,h2,by simp⟩ (by simp only;omega) [2,3] rfl ?_ ?_ rfl
    ·repeat' (first|exact VLe.refl _|exact VLe.any _|exact True.intro|(refine VLe.of_eq (congrArg V.s (?_:S.sla 2 3 _=S.sla 2 3 _));simp;omega)|refine⟨?_,?_⟩)
    ·exact⟨rfl,trivial⟩
   |x::y::l,_=>
    repeat'(first|exact y0|refine y1 ?_|refine y2 ?_ ?_|(refine y8 ?_ ?_<;>intro h<;>try exact y6)|refine y3 ?_|refine y7 ?_ ?_|refine y4 ?_|(refine y9 ?_ ?_<;>intro h)|exact y5|fail)
    generalize K.getD j []=r at*;obtain⟨z,r,rfl⟩:=List.exists_cons_of_ne_nil hr;simp only[List.length_cons,List.length_nil] at hlen;refine RegX.app [.app ((l.length+2)+(r.length+1)) (((x::y::l)++z::r).flatMap ndC)] rfl rfl ?_ rfl rfl rfl ?_
    ·refine⟨?_,trivial,rfl,rfl,?_,?_,(fun h=>by simp),?_,?_⟩
     ·rw[hsz];show (l.length+2)*4≤((x::y::l).flatMap ndC).length;rw[nd_len];simp
     ·rw[hsz,nd_flat];show _=List.take ((l.length+2)*4) ((x::y::l).flatMap ndC)++_;rw[List.take_of_length_le (by rw[nd_len];simp),List.flatMap_append]
     ·rw[nd_flat];exact nd_fit _ _
     ·rw[hby];omega
     ·omega
    repeat'(first|exact y0|refine y1 ?_|refine y2 ?_ ?_|(refine y8 ?_ ?_<;>intro h<;>try exact y6)|refine y3 ?_|refine y7 ?_ ?_|refine y4 ?_|(refine y9 ?_ ?_<;>intro h)|exact y5|fail)
    all_goals try omega
    refine LoopR.move (j+1,(x::y::l)++z::r) ⟨hj,h2,by simp⟩ (by simp only;omega) [2,3] rfl ?_ ?_ rfl
    ·repeat' (first|exact VLe.refl _|exact VLe.any _|exact True.intro|(refine VLe.of_eq (congrArg V.s (?_:S.sla 2 3 _=S.sla 2 3 _));simp;omega)|refine⟨?_,?_⟩)
    ·exact⟨rfl,trivial⟩
  ·have hd:K.drop j=[]:=List.drop_eq_nil_of_le hj
   rw[hd] at h2;simp only[List.flatten_nil,List.append_nil] at h2;subst h2
   match Q,h3 with
   |[x],_=>
    repeat'(first|exact y0|refine y1 ?_|refine y2 ?_ ?_|(refine y8 ?_ ?_<;>intro h<;>try exact y6)|refine Ex.fz 8 (fun k=>ndC ([x].getD k dN)) 4 rfl rfl rfl rfl (fun _ _=>rfl) (fun k j s hk hs=>nd_one hk hs) rfl rfl ?_|refine Fin.le (.inl rfl) rfl (VLe.refl _) rfl|refine y3 ?_|refine y7 ?_ ?_|refine y4 ?_|(refine y9 ?_ ?_<;>intro h)|exact y5|fail)
    all_goals try omega
   |x::y::l,_=>
    repeat'(first|exact y0|refine y1 ?_|refine y2 ?_ ?_|(refine y8 ?_ ?_<;>intro h<;>try exact y6)|refine Ex.fz 8 (fun k=>ndC ((x::y::l).getD k dN)) 4 rfl rfl rfl rfl (fun _ _=>rfl) (fun k j s hk hs=>nd_cell hk hs) rfl rfl ?_|refine Fin.le (.inl rfl) rfl (VLe.refl _) rfl|refine y3 ?_|refine y7 ?_ ?_|refine y4 ?_|(refine y9 ?_ ?_<;>intro h)|exact y5|fail)
    all_goals try omega
set_option maxRecDepth 100000
set_option maxHeartbeats 1000000
def tree (op n:Int) (s:By) (K:List (List Nd)):List Nd:=⟨op,n,s,K.length⟩::K.flatten
structure OKr (B:Nat) (r:List Nd):Prop where
 ne:r≠[]
 len:r.length≤B
 wf:∀ x∈r,x.str.length≤1000∧0≤x.int
theorem OKr.le {B C:Nat} {r:List Nd} (h:OKr B r) (hbc:B≤C):OKr C r:=⟨h.ne,Nat.le_trans h.len hbc,h.wf⟩
theorem flat_len_le {B:Nat}:∀ {K:List (List Nd)},(∀ r∈K,OKr B r)→K.flatten.length≤K.length*B
 |[],_=>by simp
 |r::K,h=>by
  have h1:=(h r (List.mem_cons_self ..)).len
  have h2:=flat_len_le (K:=K) fun q hq=>h q (List.mem_cons_of_mem _ hq)
  simp only[List.flatten_cons,List.length_append,List.length_cons];rw[Nat.add_mul,Nat.one_mul];omega
theorem OKr.tree {B C:Nat} {op n:Int} {s:By} {K:List (List Nd)} (hK:∀ r∈K,OKr B r) (hn:0≤n) (hs:s.length≤1000) (hC:1+K.length*B≤C):OKr C (tree op n s K):=by
 refine⟨by simp[Go.Proofs.YtbokilgdefkmiaaGreatDoor.tree],?_,fun x hx=>?_⟩
 ·have:=flat_len_le hK
  simp only[Go.Proofs.YtbokilgdefkmiaaGreatDoor.tree,List.length_cons];omega
 ·rcases List.mem_cons.1 hx with rfl|hx
  ·exact⟨hs,hn⟩
  ·obtain⟨r,hr,hxr⟩:=List.mem_flatten.1 hx
   exact (hK r hr).wf x hxr
theorem node_t (op n:Int) (s:By) (K:List (List Nd)) {B:Nat} (hK:∀ r∈K,OKr B r) (hB:K.length*B≤1000000000000) (hk:K.length≤4096):
 FC Tryz.prog 48 [nI op,.s (.int .u64 n),sV s,.s (kidF K)] 0 [] (nodes (tree op n s K)) 0 []:=
 node_f op n s K (fun r hr=>(hK r hr).ne) (Nat.le_trans (flat_len_le hK) hB) hk
theorem leaf_t (op n:Int) (s:By):FC Tryz.prog 48 [nI op,.s (.int .u64 n),sV s,.s (kidF [])] 0 [] (nodes (tree op n s [])) 0 []:=
 node_t op n s [] (B:=0) (fun r hr=>by cases hr) (by simp) (by simp)
theorem OKr.leaf {op n:Int} {s:By} (hn:0≤n) (hs:s.length≤1000):OKr 1 (Go.Proofs.YtbokilgdefkmiaaGreatDoor.tree op n s []):=
 OKr.tree (B:=0) (fun r hr=>by cases hr) hn hs (by simp)
theorem int_c (n:Int):FC Tryz.prog 27 [.s (.int .u64 n)] 0 [] (nodes (tree 1 n [] [])) 0 []:=by
 have h:=leaf_t 1 n [];refine FC.walk (by kernel_rfl) Tryz.func27 rfl rfl ?_
 repeat'(first|exact y0|refine y1 ?_|refine y2 ?_ ?_|(refine y8 ?_ ?_<;>intro h<;>try exact y6)|(refine wC ?_;first|(refine wF 48 ?_;refine CallG.we h rfl ⟨VLe.refl _,VLe.refl _,VLe.refl _,VLe.s SLe.nil,trivial⟩ rfl rfl rfl ?_))|refine Fin.le (.inl rfl) rfl (VLe.refl _) rfl|refine y3 ?_|refine y7 ?_ ?_|refine y4 ?_|(refine y9 ?_ ?_<;>intro h)|exact y5|fail)
theorem nameOf_c (s:By):FC Tryz.prog 26 [sV s] 0 [] (nodes (tree 3 0 s [])) 0 []:=by
 have h:=leaf_t 3 0 s;refine FC.walk (by kernel_rfl) Tryz.func26 rfl rfl ?_
 repeat'(first|exact y0|refine y1 ?_|refine y2 ?_ ?_|(refine y8 ?_ ?_<;>intro h<;>try exact y6)|(refine wC ?_;first|(refine wF 48 ?_;refine CallG.we h rfl ⟨VLe.refl _,VLe.refl _,VLe.refl _,VLe.s SLe.nil,trivial⟩ rfl rfl rfl ?_))|refine Fin.le (.inl rfl) rfl (VLe.refl _) rfl|refine y3 ?_|refine y7 ?_ ?_|refine y4 ?_|(refine y9 ?_ ?_<;>intro h)|exact y5|fail)
theorem node_n (op:Int) (K:List (List Nd)) {B:Nat} (hK:∀ r∈K,OKr B r) (hB:K.length*B≤1000000000000) (hk:K.length≤4096):
 FC Tryz.prog 25 [nI op,.s (kidF K)] 0 [] (nodes (tree op 0 [] K)) 0 []:=by
 have h:=node_t op 0 [] K hK hB hk;generalize tree op 0 [] K=T at*;unfold kidF at*;refine FC.walk (by kernel_rfl) Tryz.func25 rfl rfl ?_
 repeat'(first|exact y0|refine y1 ?_|refine y2 ?_ ?_|(refine y8 ?_ ?_<;>intro h<;>try exact y6)|(refine wC ?_;first|refine wF 48 (pu h ?_))|refine Fin.le (.inl rfl) rfl (VLe.refl _) rfl|refine y3 ?_|refine y7 ?_ ?_|refine y4 ?_|(refine y9 ?_ ?_<;>intro h)|exact y5|fail)
set_option maxRecDepth 100000
set_option maxHeartbeats 1000000
theorem kid_cell {K:List (List Nd)} {k j:Nat} {x:S} (hk:k<K.length) (hx:[nS (K.getD k [])][j]? =some x):(K.map fun r=>nS r)[k*1+j]? =some x∧pureS x=true:=by
 cases j with
 |succ j=>simp at hx
 |zero=>
  simp only[List.getElem?_cons_zero,Option.some.injEq] at hx;subst hx;rw[Nat.mul_one,Nat.add_zero,List.getElem?_map,List.getElem?_eq_getElem hk,List.getD_eq_getElem?_getD,List.getElem?_eq_getElem hk];exact⟨rfl,rfl⟩
theorem int_e (n:Int) (h:0≤n):∃ r,OKr 1 r∧FC Tryz.prog 27 [.s (.int .u64 n)] 0 [] (nodes r) 0 []:=⟨_,OKr.leaf h (by simp),int_c n⟩
theorem name_e (s:By) (h:s.length≤1000):∃ r,OKr 1 r∧FC Tryz.prog 26 [sV s] 0 [] (nodes r) 0 []:=⟨_,OKr.leaf (by decide) h,nameOf_c s⟩
theorem node_e (op:Int) (K:List (List Nd)) {B:Nat} (C:Nat) (hK:∀ r∈K,OKr B r) (hB:K.length*B≤1000000000000) (hk:K.length≤4096) (hC:1+K.length*B≤C):
 ∃ r,OKr C r∧FC Tryz.prog 25 [nI op,.s (kidF K)] 0 [] (nodes r) 0 []:=⟨_,OKr.tree hK (by decide) (by simp) hC,node_n op K hK hB hk⟩
set_option maxRecDepth 100000
set_option maxHeartbeats 1000000
abbrev kidB (g:Nat) (K:List (List Nd)):Option Bl:=opB 23 (g+1) 1 (K.map fun r=>nS r)
inductive BufT (l:List Int):Nat→Nat→List (List Nd)→Nat→Prop
 |nil (i:Nat):BufT l 0 i [] i
 |cons {n i k i1 i':Nat} {r:List Nd} {K:List (List Nd)} (hk:k<256) (hi1:i1≤l.length) (c:FC Tryz.prog 28 [cP,nI (256:Nat)] 1 (chL l i) (nI k) 1 (chL l i1))
  (o:OKr 1 r) (d:FC Tryz.prog 27 [.s (.int .u64 k)] 0 [] (nodes r) 0 []) (t:BufT l n i1 K i'):BufT l (n+1) i (r::K) i'
theorem buf_len {l:List Int} {n i i':Nat} {K:List (List Nd)} (h:BufT l n i K i'):K.length=n:=by
 induction h with
 |nil i=>rfl
 |cons _ _ _ _ _ _ ih=>simp[ih]
theorem buf_t (l:List Int) (hl:l.length≤20000000000000):∀ (n i:Nat),i≤l.length→∃ K i',BufT l n i K i'∧i'≤l.length∧K.length=n∧∀ r∈K,OKr 1 r
 |0,i,hi=>⟨[],i,.nil i,hi,rfl,fun r hr=>by cases hr⟩
 |n+1,i,hi=>by
  obtain⟨k,i1,hk,hi1,c⟩:=next_c l hl 256 (by decide) (by decide) i hi;obtain⟨r,o,d⟩:=int_e k (by omega);obtain⟨K,i',h1,h2,h3,h4⟩:=buf_t l hl n i1 hi1;refine⟨r::K,i',.cons hk hi1 c o d h1,h2,by simp[h3],fun q hq=>?_⟩
  rcases List.mem_cons.1 hq with rfl|hq
  ·exact o
  ·exact h4 q hq
theorem data_buf (l:List Int) (hl:l.length≤20000000000000) (dep:Int) (i i1:Nat) (hi1:i1≤l.length) (c1:FC Tryz.prog 28 [cP,nI (5:Nat)] 1 (chL l i) (nI (2:Nat)) 1 (chL l i1)):
 ∃ (r:List Nd) (i':Nat),OKr 10 r∧i'≤l.length∧FC Tryz.prog 29 [cP,nI dep] 1 (chL l i) (nodes r) 1 (chL l i'):=by
 obtain⟨m,i2,hm2,hi2,c2⟩:=next_c l hl 4 (by decide) (by decide) i1 hi1;obtain⟨K,i3,hB,hi3,hKl,hK⟩:=buf_t l hl m i2 hi2;obtain⟨q,i4,hq,hi4,c4⟩:=next_c l hl 3 (by decide) (by decide) i3 hi3;obtain⟨r1,o1,d1⟩:=int_e ((K.length:Int)+q) (by omega);obtain⟨r2,o2,d2⟩:=node_e 4 K (B:=1) 4 hK (by omega) (by omega) (by omega);obtain⟨r,o,dn⟩:=node_e 50 [r1,r2] (B:=4) 10 (by simp[o1.le,o2]) (by simp) (by simp) (by simp);unfold kidF at dn d2;refine⟨r,i4,o,hi4,?_⟩
 have hsz:(Tryz.prog.types[23]).size=1:=by kernel_rfl
 have hby:(Tryz.prog.types[23]).bytes=24:=by kernel_rfl
 refine FC.walk (by kernel_rfl) Tryz.func29 rfl rfl ?_
 repeat'(first|exact y0|refine y1 ?_|refine y2 ?_ ?_|(refine y8 ?_ ?_<;>intro h<;>try exact y6)|(refine wC ?_;first|refine wF 28 (cm c1 ?_)|refine wF 28 (cm c2 ?_))|refine y3 ?_|refine y7 ?_ ?_|refine y4 ?_|(refine y9 ?_ ?_<;>intro h)|exact y5|fail)
 refine Ex.set 5 (.s (.row 1 2 0)) (VLe.s SLe.nilrow) rfl (Ex.upN (n':=3) (by omega) ?_)
 refine Ex.inv (σ:=Nat×Nat×List (List Nd)) (fun s=>[(5,.s (.row 1 2 s.2.2.length)),(6,nI s.1)]) (fun s=>[(0,some {cells:=[chF l,.int .i64 (s.2.1:Int)],ty:=93}),(1,kidB 1 s.2.2)])
  (fun s=>∃ R,BufT l s.1 s.2.1 R i3∧s.2.2++R=K) (fun s=>s.1) (m,i2,[]) rfl (fun _=>rfl) ⟨K,hB,rfl⟩ ⟨VLe.refl _,VLe.refl _,trivial⟩ ⟨rfl,trivial⟩ ?_
 rintro⟨n,j,D⟩ ⟨R,hR,hD⟩;simp only at hR hD ⊢
 cases hR with
 |nil=>
  rw[List.append_nil] at hD;subst hD
  cases D with
  |nil=>
   repeat'(first|exact y0|refine y1 ?_|refine y2 ?_ ?_|(refine y8 ?_ ?_<;>intro h<;>try exact y6)|(refine wC ?_;first|refine wF 28 (cm c4 ?_)|refine wF 27 (pu d1 ?_)|(refine wF 25 ?_;refine CallG.we d2 rfl ⟨VLe.refl _,VLe.s SLe.row0,trivial⟩ rfl rfl rfl ?_)|(refine wF 25 ?_;refine CallG.pz 43 (fun k=>[nS ([r1,r2].getD k [])]) 1 dn rfl rfl rfl rfl (fun _ _=>rfl) (fun kk jj zz hk hx=>kid_cell (K:=[r1,r2]) hk hx) rfl ⟨VLe.refl _,VLe.refl _,trivial⟩ rfl rfl rfl ?_))|exact u64_in (by omega) (by omega)|refine y3 ?_|refine y7 ?_ ?_|refine y4 ?_|(refine y9 ?_ ?_<;>intro h)|exact y5|fail)
   all_goals first
   |exact⟨.inl rfl,_,[],VLe.refl _,EndOK.by rfl ⟨rfl,trivial⟩ rfl rfl rfl rfl⟩
   |omega
   |exact u64_in (by omega) (by omega)
   |exact i64_in (by omega) (by omega)
   |exact u64_in (by simp;omega) (by simp;omega)
   |exact i64_in (by simp;omega) (by simp;omega)
  |cons x D=>
   repeat'(first|exact y0|refine y1 ?_|refine y2 ?_ ?_|(refine y8 ?_ ?_<;>intro h<;>try exact y6)|(refine wC ?_;first|refine wF 28 (cm c4 ?_)|refine wF 27 (pu d1 ?_)|(refine wF 25 ?_;refine CallG.pz 43 (fun k=>[nS ([r1,r2].getD k [])]) 1 dn rfl rfl rfl rfl (fun _ _=>rfl) (fun kk jj zz hk hx=>kid_cell (K:=[r1,r2]) hk hx) rfl ⟨VLe.refl _,VLe.refl _,trivial⟩ rfl rfl rfl ?_)|(refine wF 25 ?_;refine CallG.pz 41 (fun k=>[nS ((x::D).getD k [])]) 1 d2 rfl rfl rfl rfl (fun _ _=>rfl) (fun kk jj zz hk hx=>kid_cell (K:=(x::D)) hk hx) rfl ⟨VLe.refl _,VLe.refl _,trivial⟩ rfl rfl rfl ?_))|exact u64_in (by omega) (by omega)|refine y3 ?_|refine y7 ?_ ?_|refine y4 ?_|(refine y9 ?_ ?_<;>intro h)|exact y5|fail)
   all_goals first
   |exact⟨.inl rfl,_,[],VLe.refl _,EndOK.by rfl ⟨rfl,trivial⟩ rfl rfl rfl rfl⟩
   |omega
   |exact u64_in (by omega) (by omega)
   |exact i64_in (by omega) (by omega)
 | @cons n _ k j1 _ r' R' hk hj1 c oo d t=>
   have hRl:=buf_len t
   have hlen:D.length+n≤2:=by rw[←hKl,←hD] at hm2;simp at hm2;omega
   repeat'(first|exact y0|refine y1 ?_|refine y2 ?_ ?_|(refine y8 ?_ ?_<;>intro h<;>try exact y6)|(refine wC ?_;first|refine wF 28 (cm c ?_)|refine wF 27 (pu d ?_))|exact u64_in (by omega) (by omega)|refine RegX.apr (i:=1) (g:=2) (m:=D.length) (w:=1) (cs:=D.map fun r=>nS r) (foot:=[3]) (k:=1) (add:=[nS r']) rfl rfl (by simp) rfl rfl rfl rfl rfl rfl rfl hsz (by decide) rfl ⟨Nat.le_refl _,rfl⟩ (by decide) (by simp) rfl (by rw[hby];omega) (by omega) rfl ?_|refine y3 ?_|refine y7 ?_ ?_|refine y4 ?_|(refine y9 ?_ ?_<;>intro h)|exact y5|fail)
   all_goals try first
    |exact i64_in (by push_cast;omega) (by push_cast;omega)
    |omega
   refine LoopR.move (n,j1,D++[r']) ⟨R',t,by simpa using hD⟩ (by simp only;omega) [0,4,5] rfl ?_ ?_ ?_
   ·repeat' (first|exact VLe.refl _|exact VLe.any _|exact True.intro|exact VLe.of_eq (congrArg nI (by push_cast;omega))|(refine VLe.of_eq (congrArg V.s (?_:S.row 4 5 _=S.row 4 5 _));simp;done)|refine⟨?_,?_⟩)
   ·refine⟨rfl,MemP.op ?_ trivial⟩
    rw[List.map_append];rfl
   ·exact (by unfold kidB;generalize List.map _ _=cg;cases cg<;>rfl)
set_option maxRecDepth 100000
set_option maxHeartbeats 1000000
def DataE (l:List Int) (dep:Int) (B:Nat):Prop:=∀ i,i≤l.length→∃ (r:List Nd) (i':Nat),OKr B r∧i'≤l.length∧FC Tryz.prog 29 [cP,nI dep] 1 (chL l i) (nodes r) 1 (chL l i')
inductive PkT (l:List Int) (dep:Int) (B:Nat):Nat→Nat→List (List Nd)→Nat→Prop
 |nil (i:Nat):PkT l dep B 0 i [] i
 |name {n i i1 i2 i':Nat} {s:By} {r:List Nd} {K:List (List Nd)} (c:FC Tryz.prog 28 [cP,nI (3:Nat)] 1 (chL l i) (nI (2:Nat)) 1 (chL l i1))
  (c2:FC Tryz.prog 49 [cP] 1 (chL l i1) (sV s) 1 (chL l i2)) (d:FC Tryz.prog 26 [sV s] 0 [] (nodes r) 0 []) (t:PkT l dep B n i2 K i'):PkT l dep B (n+1) i (r::K) i'
 |data {n i k i1 i2 i':Nat} {r:List Nd} {K:List (List Nd)} (hk: ¬(k:Int)=2) (c:FC Tryz.prog 28 [cP,nI (3:Nat)] 1 (chL l i) (nI k) 1 (chL l i1))
  (c2:FC Tryz.prog 29 [cP,nI dep] 1 (chL l i1) (nodes r) 1 (chL l i2)) (t:PkT l dep B n i2 K i'):PkT l dep B (n+1) i (r::K) i'
theorem pk_len {l:List Int} {dep:Int} {B n i i':Nat} {K:List (List Nd)} (h:PkT l dep B n i K i'):K.length=n:=by
 induction h with
 |nil i=>rfl
 |name _ _ _ _ ih=>simp[ih]
 |data _ _ _ _ ih=>simp[ih]
theorem pk_t (l:List Int) (hl:l.length≤20000000000000) (dep:Int) (B:Nat) (hB:1≤B) (hd:DataE l dep B):∀ (n i:Nat),i≤l.length→∃ K i',PkT l dep B n i K i'∧i'≤l.length∧∀ r∈K,OKr B r
 |0,i,hi=>⟨[],i,.nil i,hi,fun r hr=>by cases hr⟩
 |n+1,i,hi=>by
  obtain⟨k,i1,hk,hi1,c⟩:=next_c l hl 3 (by decide) (by decide) i hi;by_cases h2:k=2
  ·subst h2
   obtain⟨s,i2,hs,hi2,c2⟩:=name_c l hl i1 hi1;obtain⟨r,o,d⟩:=name_e s (by omega);obtain⟨K,i',h1,h2,h4⟩:=pk_t l hl dep B hB hd n i2 hi2;refine⟨r::K,i',.name c c2 d h1,h2,fun q hq=>?_⟩
   rcases List.mem_cons.1 hq with rfl|hq
   ·exact o.le hB
   ·exact h4 q hq
  ·obtain⟨r,i2,o,hi2,c2⟩:=hd i1 hi1
   obtain⟨K,i',h1,h2,h4⟩:=pk_t l hl dep B hB hd n i2 hi2;refine⟨r::K,i',.data (by omega) c c2 h1,h2,fun q hq=>?_⟩
   rcases List.mem_cons.1 hq with rfl|hq
   ·exact o
   ·exact h4 q hq
theorem data_pkg (l:List Int) (hl:l.length≤20000000000000) (dp B:Nat) (hdp:dp≤1000) (hB1:1≤B) (hB2:B≤100000) (hd:DataE l dp B) (i i1:Nat) (hi1:i1≤l.length) (c1:FC Tryz.prog 28 [cP,nI (5:Nat)] 1 (chL l i) (nI (3:Nat)) 1 (chL l i1)):
 ∃ (r:List Nd) (i':Nat),OKr (10*B) r∧i'≤l.length∧FC Tryz.prog 29 [cP,nI (dp+1:Nat)] 1 (chL l i) (nodes r) 1 (chL l i'):=by
 obtain⟨m,i2,hm2,hi2,c2⟩:=next_c l hl 4 (by decide) (by decide) i1 hi1;obtain⟨K,i3,hB,hi3,hK⟩:=pk_t l hl dp B hB1 hd m i2 hi2;have hKl:=pk_len hB;obtain⟨q,i4,hq,hi4,c4⟩:=next_c l hl 3 (by decide) (by decide) i3 hi3;obtain⟨r1,o1,d1⟩:=int_e ((K.length:Int)+q) (by omega);have hKB:K.length*B≤3*B:=Nat.mul_le_mul_right B (by omega);obtain⟨r2,o2,d2⟩:=node_e 4 K (B:=B) (1+3*B) hK (by omega) (by omega) (by omega);obtain⟨r,o,dn⟩:=node_e 51 [r1,r2] (B:=1+3*B) (10*B) (by simp[o1.le (show 1≤1+3*B by omega),o2]) (by simp;omega) (by simp) (by simp;omega);unfold kidF at dn d2;refine⟨r,i4,o,hi4,?_⟩
 have hsz:(Tryz.prog.types[23]).size=1:=by kernel_rfl
 have hby:(Tryz.prog.types[23]).bytes=24:=by kernel_rfl
 have hdpos:((dp+1:Nat):Int)>0:=by omega
 refine FC.walk (by kernel_rfl) Tryz.func29 rfl rfl ?_
 repeat'(first|exact y0|refine y1 ?_|refine y2 ?_ ?_|(refine y8 ?_ ?_<;>intro h<;>try exact y6)|(refine wC ?_;first|refine wF 28 (cm c1 ?_)|refine wF 28 (cm c2 ?_))|refine y3 ?_|refine y7 ?_ ?_|refine y4 ?_|(refine y9 ?_ ?_<;>intro h)|exact y5|fail)
 refine Ex.set 7 (.s (.row 1 2 0)) (VLe.s SLe.nilrow) rfl (Ex.upN (n':=3) (by omega) ?_)
 refine Ex.inv (σ:=Nat×Nat×List (List Nd)) (fun s=>[(7,.s (.row 1 2 s.2.2.length)),(8,nI s.1)]) (fun s=>[(0,some {cells:=[chF l,.int .i64 (s.2.1:Int)],ty:=93}),(1,kidB 1 s.2.2)])
  (fun s=>∃ R,PkT l dp B s.1 s.2.1 R i3∧s.2.2++R=K) (fun s=>s.1) (m,i2,[]) rfl (fun _=>rfl) ⟨K,hB,rfl⟩ ⟨VLe.refl _,VLe.refl _,trivial⟩ ⟨rfl,trivial⟩ ?_
 rintro⟨n,j,D⟩ ⟨R,hR,hD⟩;simp only at hR hD ⊢
 cases hR with
 |nil=>
  rw[List.append_nil] at hD;subst hD
  cases D with
  |nil=>
   repeat'(first|exact y0|refine y1 ?_|refine y2 ?_ ?_|(refine y8 ?_ ?_<;>intro h<;>try exact y6)|(refine wC ?_;first|refine wF 28 (cm c4 ?_)|refine wF 27 (pu d1 ?_)|(refine wF 25 ?_;refine CallG.we d2 rfl ⟨VLe.refl _,VLe.s SLe.row0,trivial⟩ rfl rfl rfl ?_)|(refine wF 25 ?_;refine CallG.pz 80 (fun k=>[nS ([r1,r2].getD k [])]) 1 dn rfl rfl rfl rfl (fun _ _=>rfl) (fun kk jj zz hk hx=>kid_cell (K:=[r1,r2]) hk hx) rfl ⟨VLe.refl _,VLe.refl _,trivial⟩ rfl rfl rfl ?_))|exact u64_in (by omega) (by omega)|refine y3 ?_|refine y7 ?_ ?_|refine y4 ?_|(refine y9 ?_ ?_<;>intro h)|exact y5|fail)
   all_goals first
   |exact⟨.inl rfl,_,[],VLe.refl _,EndOK.by rfl ⟨rfl,trivial⟩ rfl rfl rfl rfl⟩
   |omega
   |exact u64_in (by omega) (by omega)
   |exact i64_in (by omega) (by omega)
   |exact u64_in (by simp;omega) (by simp;omega)
   |exact i64_in (by simp;omega) (by simp;omega)
  |cons x D=>
   repeat'(first|exact y0|refine y1 ?_|refine y2 ?_ ?_|(refine y8 ?_ ?_<;>intro h<;>try exact y6)|(refine wC ?_;first|refine wF 28 (cm c4 ?_)|refine wF 27 (pu d1 ?_)|(refine wF 25 ?_;refine CallG.pz 80 (fun k=>[nS ([r1,r2].getD k [])]) 1 dn rfl rfl rfl rfl (fun _ _=>rfl) (fun kk jj zz hk hx=>kid_cell (K:=[r1,r2]) hk hx) rfl ⟨VLe.refl _,VLe.refl _,trivial⟩ rfl rfl rfl ?_)|(refine wF 25 ?_;refine CallG.pz 78 (fun k=>[nS ((x::D).getD k [])]) 1 d2 rfl rfl rfl rfl (fun _ _=>rfl) (fun kk jj zz hk hx=>kid_cell (K:=(x::D)) hk hx) rfl ⟨VLe.refl _,VLe.refl _,trivial⟩ rfl rfl rfl ?_))|exact u64_in (by omega) (by omega)|refine y3 ?_|refine y7 ?_ ?_|refine y4 ?_|(refine y9 ?_ ?_<;>intro h)|exact y5|fail)
   all_goals first
   |exact⟨.inl rfl,_,[],VLe.refl _,EndOK.by rfl ⟨rfl,trivial⟩ rfl rfl rfl rfl⟩
   |omega
   |exact u64_in (by omega) (by omega)
   |exact i64_in (by omega) (by omega)
 | @name n _ i1' j1 _ s r' R' c c2 d t=>
   have hRl:=pk_len t
   have hlen:D.length+n≤2:=by rw[←hKl,←hD] at hm2;simp at hm2;omega
   repeat'(first|exact y0|refine y1 ?_|refine y2 ?_ ?_|(refine y8 ?_ ?_<;>intro h<;>try exact y6)|(refine wC ?_;first|refine wF 28 (cm c ?_)|refine wF 49 (cm c2 ?_)|refine wF 26 (pu d ?_))|refine RegX.apr (i:=1) (g:=2) (m:=D.length) (w:=1) (cs:=D.map fun r=>nS r) (foot:=[3]) (k:=1) (add:=[nS r']) rfl rfl (by simp) rfl rfl rfl rfl rfl rfl rfl hsz (by decide) rfl ⟨Nat.le_refl _,rfl⟩ (by decide) (by simp) rfl (by rw[hby];omega) (by omega) rfl ?_|refine y3 ?_|refine y7 ?_ ?_|refine y4 ?_|(refine y9 ?_ ?_<;>intro h)|exact y5|fail)
   all_goals try first
    |exact i64_in (by push_cast;omega) (by push_cast;omega)
    |omega
   refine LoopR.move (n,j1,D++[r']) ⟨R',t,by simpa using hD⟩ (by simp only;omega) [0,4,5] rfl ?_ ?_ ?_
   ·repeat' (first|exact VLe.refl _|exact VLe.any _|exact True.intro|exact VLe.of_eq (congrArg nI (by push_cast;omega))|(refine VLe.of_eq (congrArg V.s (?_:S.row 4 5 _=S.row 4 5 _));simp;done)|refine⟨?_,?_⟩)
   ·refine⟨rfl,MemP.op ?_ trivial⟩
    rw[List.map_append];rfl
   ·exact (by unfold kidB;generalize List.map _ _=cg;cases cg<;>rfl)
 | @data n _ k i1' j1 _ r' R' hk c c2 t=>
   have hRl:=pk_len t
   have hlen:D.length+n≤2:=by rw[←hKl,←hD] at hm2;simp at hm2;omega
   repeat'(first|exact y0|refine y1 ?_|refine y2 ?_ ?_|(refine y8 ?_ ?_<;>intro h<;>try exact y6)|(refine wC ?_;first|refine wF 28 (cm c ?_)|(refine wF 29 ?_;refine CallG.me [0] c2 rfl rfl ⟨VLe.refl _,VLe.of_eq (congrArg nI (by push_cast;omega)),trivial⟩ ⟨⟨rfl,_,rfl,rfl,fun h=>h⟩,trivial⟩ rfl rfl rfl ?_))|refine RegX.apr (i:=1) (g:=2) (m:=D.length) (w:=1) (cs:=D.map fun r=>nS r) (foot:=[3]) (k:=1) (add:=[nS r']) rfl rfl (by simp) rfl rfl rfl rfl rfl rfl rfl hsz (by decide) rfl ⟨Nat.le_refl _,rfl⟩ (by decide) (by simp) rfl (by rw[hby];omega) (by omega) rfl ?_|refine y3 ?_|refine y7 ?_ ?_|refine y4 ?_|(refine y9 ?_ ?_<;>intro h)|exact y5|fail)
   all_goals try first
    |exact i64_in (by push_cast;omega) (by push_cast;omega)
    |omega
   refine LoopR.move (n,j1,D++[r']) ⟨R',t,by simpa using hD⟩ (by simp only;omega) [0,4,5] rfl ?_ ?_ ?_
   ·repeat' (first|exact VLe.refl _|exact VLe.any _|exact True.intro|exact VLe.of_eq (congrArg nI (by push_cast;omega))|(refine VLe.of_eq (congrArg V.s (?_:S.row 4 5 _=S.row 4 5 _));simp;done)|refine⟨?_,?_⟩)
   ·refine⟨rfl,MemP.op ?_ trivial⟩
    rw[List.map_append];rfl
   ·exact (by unfold kidB;generalize List.map _ _=cg;cases cg<;>rfl)
set_option maxRecDepth 100000
set_option maxHeartbeats 1000000
theorem data_num (l:List Int) (hl:l.length≤20000000000000) (dep:Int) (i i1 k:Nat) (hi1:i1≤l.length) (h1: ¬(k:Int)=1) (h2: ¬(k:Int)=2) (h3:(k:Int)=3→ ¬dep>0) (c1:FC Tryz.prog 28 [cP,nI (5:Nat)] 1 (chL l i) (nI k) 1 (chL l i1)):
 ∃ (r:List Nd) (i':Nat),OKr 10 r∧i'≤l.length∧FC Tryz.prog 29 [cP,nI dep] 1 (chL l i) (nodes r) 1 (chL l i'):=by
 obtain⟨x,i2,hx,hi2,c2⟩:=number_c l hl i1 hi1;obtain⟨r,o,d⟩:=int_e x hx;refine⟨r,i2,o.le (by decide),hi2,?_⟩;by_cases hk:(k:Int)=3
 ·have hd:=h3 hk
  refine FC.walk (by kernel_rfl) Tryz.func29 rfl rfl ?_
  repeat'(first|exact y0|refine y1 ?_|refine y2 ?_ ?_|(refine y8 ?_ ?_<;>intro h<;>try(first|(first|exact absurd (by assumption) h1|exact absurd (by assumption) h2|exact absurd (by assumption) hd|exact absurd hk (by assumption))|exact y6))|(refine wC ?_;first|refine wF 28 (cm c1 ?_)|refine wF 30 (cm c2 ?_)|refine wF 27 (pu d ?_))|refine y3 ?_|refine y7 ?_ ?_|refine y4 ?_|(refine y9 ?_ ?_<;>intro h)|exact y5|fail)
  all_goals first
   |exact⟨.inl rfl,_,[],VLe.refl _,EndOK.by rfl ⟨rfl,trivial⟩ rfl rfl rfl rfl⟩
   |omega
   |exact u64_in (by omega) (by omega)
   |exact i64_in (by omega) (by omega)
 ·refine FC.walk (by kernel_rfl) Tryz.func29 rfl rfl ?_
  repeat'(first|exact y0|refine y1 ?_|refine y2 ?_ ?_|(refine y8 ?_ ?_<;>intro h<;>try(first|(first|exact absurd (by assumption) h1|exact absurd (by assumption) h2|exact absurd (by assumption) hk)|exact y6))|(refine wC ?_;first|refine wF 28 (cm c1 ?_)|refine wF 30 (cm c2 ?_)|refine wF 27 (pu d ?_))|refine y3 ?_|refine y7 ?_ ?_|refine y4 ?_|(refine y9 ?_ ?_<;>intro h)|exact y5|fail)
  all_goals first
   |exact⟨.inl rfl,_,[],VLe.refl _,EndOK.by rfl ⟨rfl,trivial⟩ rfl rfl rfl rfl⟩
   |omega
   |exact u64_in (by omega) (by omega)
   |exact i64_in (by omega) (by omega)
theorem leaf_e (op n:Int) (s:By) (h:0≤n) (hs:s.length≤1000):∃ r,OKr 1 r∧FC Tryz.prog 48 [nI op,.s (.int .u64 n),sV s,.s (kidF [])] 0 [] (nodes r) 0 []:=⟨_,OKr.leaf h hs,leaf_t op n s⟩
theorem data_str (l:List Int) (hl:l.length≤20000000000000) (dep:Int) (i i1:Nat) (hi1:i1≤l.length) (c1:FC Tryz.prog 28 [cP,nI (5:Nat)] 1 (chL l i) (nI (1:Nat)) 1 (chL l i1)):
 ∃ (r:List Nd) (i':Nat),OKr 10 r∧i'≤l.length∧FC Tryz.prog 29 [cP,nI dep] 1 (chL l i) (nodes r) 1 (chL l i'):=by
 obtain⟨m,i2,hm2,hi2,c2⟩:=next_c l hl 5 (by decide) (by decide) i1 hi1
 obtain⟨s,hs0,hs⟩:∃ s:By,s.length≤1000∧s=(if m=0 then [] else if m=1 then [120] else if m=2 then [48,70] else if m=3 then [49,50,97,98] else [0,255,34,92]):=⟨_,by (repeat' split)<;>simp,rfl⟩
 obtain⟨r,o,d⟩:=leaf_e 2 0 s (by decide) hs0;refine⟨r,i2,o.le (by decide),hi2,?_⟩
 rcases (by omega:m=0∨m=1∨m=2∨m=3∨m=4) with rfl|rfl|rfl|rfl|rfl
 all_goals
  subst hs;refine FC.walk (by kernel_rfl) Tryz.func29 rfl rfl ?_
  repeat'(first|exact y0|refine y1 ?_|refine y2 ?_ ?_|(refine y8 ?_ ?_<;>intro h<;>try exact y6)|(refine wC ?_;first|refine wF 28 (cm c1 ?_)|refine wF 28 (cm c2 ?_)|(refine wF 48 ?_;refine CallG.we d rfl ⟨VLe.refl _,VLe.refl _,VLe.refl _,VLe.s SLe.nil,trivial⟩ rfl rfl rfl ?_))|refine y3 ?_|refine y7 ?_ ?_|refine y4 ?_|(refine y9 ?_ ?_<;>intro h)|exact y5|fail)
  all_goals first
   |exact⟨.inl rfl,_,[],VLe.refl _,EndOK.by rfl ⟨rfl,trivial⟩ rfl rfl rfl rfl⟩
   |omega
   |exact u64_in (by omega) (by omega)
   |exact i64_in (by omega) (by omega)
theorem data_e (l:List Int) (hl:l.length≤20000000000000):∀ n:Nat,n≤3→DataE l n (10^(n+1)):=by
 intro n hn i hi
 have hp:10≤10^(n+1):=by rw[Nat.pow_succ];have:0<10^n:=Nat.pow_pos (by decide);omega
 obtain⟨k,i1,hk,hi1,c1⟩:=next_c l hl 5 (by decide) (by decide) i hi;by_cases h1:k=1
 ·subst h1
  obtain⟨r,i',o,h⟩:=data_str l hl n i i1 hi1 c1;exact⟨r,i',o.le hp,h⟩
 by_cases h2:k=2
 ·subst h2
  obtain⟨r,i',o,h⟩:=data_buf l hl n i i1 hi1 c1;exact⟨r,i',o.le hp,h⟩
 by_cases h3:k=3∧0<n
 ·obtain⟨rfl,h3⟩:=h3
  obtain⟨dp,rfl⟩:∃ dp,n=dp+1:=⟨n-1,by omega⟩
  have ih:=data_e l hl dp (by omega);have hb:(10:Nat)^(dp+1)≤100000:=Nat.le_trans (Nat.pow_le_pow_right (by decide) (show dp+1≤5 by omega)) (by decide);obtain⟨r,i',o,h⟩:=data_pkg l hl dp _ (by omega) (Nat.pow_pos (by decide)) hb ih i i1 hi1 c1;exact⟨r,i',o.le (by rw[Nat.pow_succ 10 (dp+1)];omega),h⟩
 ·obtain⟨r,i',o,h⟩:=data_num l hl n i i1 k hi1 (by omega) (by omega) (fun h=>by omega) c1
  exact⟨r,i',o.le hp,h⟩
set_option maxRecDepth 100000
set_option maxHeartbeats 1000000
def ExprE (l:List Int) (dep:Int) (args B:Nat):Prop:=∀ i,i≤l.length→∃ (r:List Nd) (i':Nat),OKr B r∧i'≤l.length∧FC Tryz.prog 130 [cP,nI dep,nI args] 1 (chL l i) (nodes r) 1 (chL l i')
def TargE (l:List Int) (dep:Int) (args B:Nat):Prop:=∀ i,i≤l.length→∃ (r:List Nd) (i':Nat),OKr B r∧i'≤l.length∧FC Tryz.prog 133 [cP,nI dep,nI args] 1 (chL l i) (nodes r) 1 (chL l i')
theorem targ_e (l:List Int) (hl:l.length≤20000000000000) (dep:Int) (h1: -10≤dep) (h2:dep≤10) (args B:Nat) (ha:args≤100) (hB1:1≤B) (hB2:B≤100000) (hE:0<dep→ExprE l (dep-1) args B):TargE l dep args (1+2*B):=by
 intro i hi;obtain⟨k,i1,hk,hi1,c1⟩:=next_c l hl 5 (by decide) (by decide) i hi;by_cases k1:k=1
 ·subst k1
  obtain⟨s,i2,hs,hi2,c2⟩:=name_c l hl i1 hi1;obtain⟨r,o,d⟩:=name_e s (by omega);refine⟨r,i2,o.le (by omega),hi2,?_⟩;refine FC.walk (by kernel_rfl) Tryz.func133 rfl rfl ?_
  repeat'(first|exact y0|refine y1 ?_|refine y2 ?_ ?_|(refine y8 ?_ ?_<;>intro h<;>try exact y6)|(refine wC ?_;first|refine wF 28 (cm c1 ?_)|refine wF 49 (cm c2 ?_)|refine wF 26 (pu d ?_))|exact u64_in (by omega) (by omega)|exact i64_in (by omega) (by omega)|refine y3 ?_|refine y7 ?_ ?_|refine y4 ?_|(refine y9 ?_ ?_<;>intro h)|exact y5|fail)
  all_goals first
   |exact⟨.inl rfl,_,[],VLe.refl _,EndOK.by rfl ⟨rfl,trivial⟩ rfl rfl rfl rfl⟩
   |omega
   |exact u64_in (by omega) (by omega)
   |exact i64_in (by omega) (by omega)
 by_cases k2:k=2∧0<args
 ·obtain⟨rfl,hr⟩:=k2
  obtain⟨m,i2,hm2,hi2,c2⟩:=next_c l hl args hr (by omega) i1 hi1;obtain⟨r,o,d⟩:=leaf_e 7 m [] (by omega) (by simp);refine⟨r,i2,o.le (by omega),hi2,?_⟩;refine FC.walk (by kernel_rfl) Tryz.func133 rfl rfl ?_
  repeat'(first|exact y0|refine y1 ?_|refine y2 ?_ ?_|(refine y8 ?_ ?_<;>intro h<;>try exact y6)|(refine wC ?_;first|refine wF 28 (cm c1 ?_)|refine wF 28 (cm c2 ?_)|(refine wF 48 ?_;refine CallG.we d rfl ⟨VLe.refl _,VLe.refl _,VLe.refl _,VLe.s SLe.nil,trivial⟩ rfl rfl rfl ?_))|exact u64_in (by omega) (by omega)|exact i64_in (by omega) (by omega)|refine y3 ?_|refine y7 ?_ ?_|refine y4 ?_|(refine y9 ?_ ?_<;>intro h)|exact y5|fail)
  all_goals first
   |exact⟨.inl rfl,_,[],VLe.refl _,EndOK.by rfl ⟨rfl,trivial⟩ rfl rfl rfl rfl⟩
   |omega
   |exact u64_in (by omega) (by omega)
   |exact i64_in (by omega) (by omega)
 by_cases k3:k=3∧0<dep
 ·obtain⟨rfl,hr⟩:=k3
  obtain⟨r1,i2,o1,hi2,c2⟩:=hE hr i1 hi1;obtain⟨r2,i3,o2,hi3,c3⟩:=hE hr i2 hi2;obtain⟨r,o,dn⟩:=node_e 76 [r1,r2] (B:=B) (1+2*B) (by simp[o1,o2]) (by simp;omega) (by simp) (by simp);unfold kidF at dn;refine⟨r,i3,o,hi3,?_⟩;refine FC.walk (by kernel_rfl) Tryz.func133 rfl rfl ?_
  repeat'(first|exact y0|refine y1 ?_|refine y2 ?_ ?_|(refine y8 ?_ ?_<;>intro h<;>try exact y6)|(refine wC ?_;first|refine wF 28 (cm c1 ?_)|refine wF 130 (cm c2 ?_)|refine wF 130 (cm c3 ?_)|(refine wF 25 ?_;refine CallG.pz 45 (fun k=>[nS ([r1,r2].getD k [])]) 1 dn rfl rfl rfl rfl (fun _ _=>rfl) (fun kk jj zz hk hx=>kid_cell (K:=[r1,r2]) hk hx) rfl ⟨VLe.refl _,VLe.refl _,trivial⟩ rfl rfl rfl ?_))|exact u64_in (by omega) (by omega)|exact i64_in (by omega) (by omega)|refine y3 ?_|refine y7 ?_ ?_|refine y4 ?_|(refine y9 ?_ ?_<;>intro h)|exact y5|fail)
  all_goals first
   |exact⟨.inl rfl,_,[],VLe.refl _,EndOK.by rfl ⟨rfl,trivial⟩ rfl rfl rfl rfl⟩
   |omega
   |exact u64_in (by omega) (by omega)
   |exact i64_in (by omega) (by omega)
 by_cases k4:k=4∧0<dep
 ·obtain⟨rfl,hr⟩:=k4
  obtain⟨r1,i2,o1,hi2,c2⟩:=hE hr i1 hi1;obtain⟨r,o,dn⟩:=node_e 84 [r1] (B:=B) (1+2*B) (by simp[o1]) (by simp;omega) (by simp) (by simp;omega);unfold kidF at dn;refine⟨r,i2,o,hi2,?_⟩;refine FC.walk (by kernel_rfl) Tryz.func133 rfl rfl ?_
  repeat'(first|exact y0|refine y1 ?_|refine y2 ?_ ?_|(refine y8 ?_ ?_<;>intro h<;>try exact y6)|(refine wC ?_;first|refine wF 28 (cm c1 ?_)|refine wF 130 (cm c2 ?_)|(refine wF 25 ?_;refine CallG.pz 59 (fun k=>[nS ([r1].getD k [])]) 1 dn rfl rfl rfl rfl (fun _ _=>rfl) (fun kk jj zz hk hx=>kid_cell (K:=[r1]) hk hx) rfl ⟨VLe.refl _,VLe.refl _,trivial⟩ rfl rfl rfl ?_))|exact u64_in (by omega) (by omega)|exact i64_in (by omega) (by omega)|refine y3 ?_|refine y7 ?_ ?_|refine y4 ?_|(refine y9 ?_ ?_<;>intro h)|exact y5|fail)
  all_goals first
   |exact⟨.inl rfl,_,[],VLe.refl _,EndOK.by rfl ⟨rfl,trivial⟩ rfl rfl rfl rfl⟩
   |omega
   |exact u64_in (by omega) (by omega)
   |exact i64_in (by omega) (by omega)
 ·obtain⟨m,i2,hm2,hi2,c2⟩:=next_c l hl 3 (by decide) (by decide) i1 hi1
  obtain⟨r,o,d⟩:=leaf_e 6 m [] (by omega) (by simp);refine⟨r,i2,o.le (by omega),hi2,?_⟩;refine FC.walk (by kernel_rfl) Tryz.func133 rfl rfl ?_
  repeat'(first|exact y0|refine y1 ?_|refine y2 ?_ ?_|(refine y8 ?_ ?_<;>intro h<;>try exact y6)|(refine wC ?_;first|refine wF 28 (cm c1 ?_)|refine wF 28 (cm c2 ?_)|(refine wF 48 ?_;refine CallG.we d rfl ⟨VLe.refl _,VLe.refl _,VLe.refl _,VLe.s SLe.nil,trivial⟩ rfl rfl rfl ?_))|exact u64_in (by omega) (by omega)|exact i64_in (by omega) (by omega)|refine y3 ?_|refine y7 ?_ ?_|refine y4 ?_|(refine y9 ?_ ?_<;>intro h)|exact y5|fail)
  all_goals first
   |exact⟨.inl rfl,_,[],VLe.refl _,EndOK.by rfl ⟨rfl,trivial⟩ rfl rfl rfl rfl⟩
   |omega
   |exact u64_in (by omega) (by omega)
   |exact i64_in (by omega) (by omega)
end Go.Proofs.YtbokilgdefkmiaaGreatDoor
