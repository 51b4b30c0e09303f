import Derived.Test.YtphdhedhhlfepaaGreatDoorCzC11
import Derived.Test.YtphdhedhhlfepaaGreatDoorCzC08
set_option linter.unusedSimpArgs false
set_option linter.unusedVariables false
namespace Go.Proofs.YtphdhedhhlfepaaGreatDoor
namespace Ab
open Go
theorem fz_core {φ:Ph} {L:Hp} {w:World} (h2:Good φ L w) (get:Nat→List S) (sz:Nat) {i N:Nat} {bl:Bl} (hl:lk L i=some bl) (hro:bl.ro=false) (hk:bl.kind=none)
 (hg:∀ k,k<N→(get k).length=sz) (hc:∀ k j x,k<N→(get k)[j]? =some x→bl.cells[k*sz+j]? =some x∧pureS x=true):
 ∃ φ':Ph,φ'.f=φ.f∧φ.le φ'∧(∀ b l,φ'.z b=some l→φ.z b=some l∨Wr φ L b)∧Good φ' (put L i none) w∧(∀ v x,sliceOf v=some (i,N)→Vr φ v x→Vr φ' (.s (.frz get sz N)) x):=by
 obtain⟨b0,hb0,pre,xs,rest,fr,p1,hp,p2,p3,p4,p5⟩:=h2.hr i bl hl;rw[hk] at p1;simp only[objOf] at p1
 let φ':Ph:=⟨φ.f,fun x=>if x=b0.1 then some (pre++(xs++rest)) else φ.z x⟩
 have hz0:φ.z b0.1=none:=by
  cases e:φ.z b0.1 with
  |none=>rfl
  |some l=>exact absurd ⟨i,bl,b0,hl,hb0,rfl,hro⟩ (h2.fz b0.1 l e).2
 have zle:∀ x l,φ.z x=some l→φ'.z x=some l:=by
  intro x l hx;simp only[φ'];split
  ·rename_i e;subst e;rw[hz0] at hx;cases hx
  ·exact hx
 have hle:φ.le φ':=⟨fun _ _ h=>h,zle⟩
 have hlt:b0.1<w.heap.size:=by
  rcases Nat.lt_or_ge b0.1 w.heap.size with h|h
  ·exact h
  ·simp[Array.getElem?_eq_none h] at p1
 have sub:Sub (put L i none) L:=by
  intro j bj hj;rw[lk_put] at hj;split at hj
  ·cases hj
  ·exact hj
 have good':Good φ' (put L i none) w:=by
  refine⟨fun j bj hj=>?_,fun j j' bj bj' c c' hj hj' hc hc' hcc=>h2.inj j j' bj bj' c c' (sub j bj hj) (sub j' bj' hj') hc hc' hcc,fun x l hx=>?_,h2.gz.mono zle⟩
  ·obtain⟨c,hc,hat⟩:=h2.hr j bj (sub j bj hj)
   exact⟨c,hc,hat.mono hle rfl⟩
  ·by_cases e:x=b0.1
   ·subst e
    simp only[φ',if_true,Option.some.injEq] at hx;subst hx;refine⟨⟨bl.ty,fr,p1⟩,?_⟩;rintro⟨j,bj,c,hj,hc,hcb,hroj⟩;have hj':=sub j bj hj
    rcases h2.inj j i bj bl c b0 hj' hl hc hb0 hcb with rfl|⟨e,_⟩
    ·rw[lk_put,if_pos rfl] at hj;cases hj
    ·rw[e] at hroj;cases hroj
   ·simp only[φ',if_neg e] at hx
    exact⟨(h2.fz x l hx).1,fun hw=>(h2.fz x l hx).2 (Wr.sub sub (by obtain⟨j,bj,c,hj⟩:=hw;exact⟨j,bj,c,hj⟩))⟩
 have hfz:∀ m kk,m≤N→m≤kk→Sr φ' (.frz get sz m) (.slice (some ⟨b0.1,b0.2,none⟩) m kk):=by
  intro m kk hm hmk;refine .frz get sz m b0.1 b0.2 kk (pre++(xs++rest)) (by simp[φ']) hmk (fun k j=>xs.getD (k*sz+j) Go.undef) (fun k hk=>hg k (by omega)) (fun k j x hk hx=>?_) (fun k j x hk hx=>?_)
  ·obtain⟨e,_⟩:=hc k j x (by omega) hx
   obtain⟨v,hv,_⟩:=p2.get e
   have hlx:k*sz+j<xs.length:=by
    rcases Nat.lt_or_ge (k*sz+j) xs.length with h|h
    ·exact h
    ·simp[List.getElem?_eq_none h] at hv
   rw[Nat.add_comm b0.2,pre_get pre _ hp,List.getElem?_append_left hlx,List.getD_eq_getElem?_getD,hv];rfl
  ·obtain⟨e,hpx⟩:=hc k j x (by omega) hx
   obtain⟨v,hv,hs⟩:=p2.get e;rw[List.getD_eq_getElem?_getD,hv,Option.getD_some];exact ((hs.mono (bl.ph_le_self φ)).mono hle).pr hpx
 refine⟨φ',rfl,hle,fun x l hx=>?_,good',fun v x ht hv=>?_⟩
 ·by_cases e:x=b0.1
  ·subst e;exact .inr ⟨i,bl,b0,hl,hb0,rfl,hro⟩
  ·simp only[φ',if_neg e] at hx;exact .inl hx
 ·unfold sliceOf at ht
  split at ht
  ·cases ht
   obtain⟨b1,kk,hb1,_,e,hmk⟩:=hv;rw[hb0] at hb1;cases hb1;rw[e];exact hfz _ kk (Nat.le_refl _) hmk
  ·cases ht
   obtain⟨b1,kk,hb1,e,hmk,_⟩:=hv;rw[hb0] at hb1;cases hb1;rw[e,Nat.zero_add];exact hfz _ kk (Nat.le_refl _) hmk
  ·cases ht
   rcases hv with ⟨rfl,e⟩|⟨_,b1,kk,hb1,_,e,hmk⟩
   ·rw[e];exact .nil _ _ _ _ (fun _=>rfl)
   ·rw[hb0] at hb1;cases hb1
    rw[e];exact hfz _ kk (Nat.le_refl _) hmk
  ·cases ht
theorem OpL.preFz {P:Program} {o:Oper} {env:List V} {n n':Nat} {M M':Hp} {v:V} (t:Nat) (get:Nat→List S) (sz:Nat) {i N:Nat} {bl:Bl} (ht:sliceOf (env.getD t .undef)=some (i,N)) (hl:lk M i=some bl) (hro:bl.ro=false) (hk:bl.kind=none)
 (hg:∀ k,k<N→(get k).length=sz) (hc:∀ k j x,k<N→(get k)[j]? =some x→bl.cells[k*sz+j]? =some x∧pureS x=true)
 (h:OpL P o (env.set t (.s (.frz get sz N))) n (put M i none) v n' M'):OpL P o env n M v n' M':=by
 intro φ a w Q hx hM hf;obtain⟨φ',e1,hle,hz,hg',hs⟩:=fz_core hM get sz (i:=i) (N:=N) hl hro hk hg hc
 have sub:Sub (put M i none) M:=by
  intro j bj hj;rw[lk_put] at hj;split at hj
  ·cases hj
  ·exact hj
 have wsub:∀ b,Wr φ' (put M i none) b→Wr φ M b:=fun b hw=>by
  obtain⟨j,bj,c,hj,hc,h⟩:=hw;exact⟨j,bj,c,sub _ _ hj,by rw[e1] at hc;exact hc,h⟩
 have tlt:t<env.length:=by
  rcases Nat.lt_or_ge t env.length with h|h
  ·exact h
  ·rw[List.getD_eq_getElem?_getD,List.getElem?_eq_none h] at ht;cases ht
 have hx':∀ x∈o.op.operands,Vr φ' (ev (env.set t (.s (.frz get sz N))) x) (a.eval x):=by
  intro x hxo;have h0:=hx x hxo;by_cases e:x=.tmp t
  ·subst e
   have e2:ev (env.set t (.s (.frz get sz N))) (.tmp t)=.s (.frz get sz N):=by
    show (env.set t _).getD t .undef=_;simp[List.getD_eq_getElem?_getD,tlt]
   rw[e2];exact hs _ _ ht h0
  ·have e2:ev (env.set t (.s (.frz get sz N))) x=ev env x:=by
    cases x with
    |tmp s=>
     have hne: ¬t=s:=fun h=>e (by rw[h])
     show (env.set t _).getD s .undef=env.getD s .undef;simp[List.getD_eq_getElem?_getD,List.getElem?_set_ne hne]
    |_=>rfl
   rw[e2];exact Vr.mono hle h0
 refine Oper.wp_mono ?_ (h φ' a w Q hx' hg' (fun j h1 h2=>by rw[e1];exact hf j h1 h2));rintro a' w' ⟨φ2,x,q1,q2,q3,q4,q5⟩;refine⟨φ2,x,q1,q2,q3,⟨q4.os,q4.tape,q4.output,q4.size,fun b hb hn=>q4.keep b hb fun hw=>hn (wsub b hw),fun j bl1 b hj hb hlt=>?_,fun b l hb=>q4.zle b l (hle.z b l hb),fun b l hb=>?_⟩,fun j hj=>(q5 j hj).trans (by rw[e1])⟩
 ·obtain⟨k,bl',c,hk',hc',r⟩:=q4.fresh j bl1 b hj hb hlt
  exact⟨k,bl',c,sub _ _ hk',by rw[e1] at hc';exact hc',r⟩
 ·rcases q4.zfr b l hb with q|q|q
  ·rcases hz b l q with q|q
   ·exact .inl q
   ·exact .inr (.inr q)
  ·exact .inr (.inl q)
  ·exact .inr (.inr (wsub b q))
section
variable {P:Program} {ops:Array Oper} {d:Bool} {acc:List Row} {os:List Oper} {o:Oper} {env:List V} {n:Nat} {L:Hp} {R:Post} {f:FuncId} {xs:Array Operand}
theorem CallG.pz (t:Nat) (get:Nat→List S) (sz:Nat) {args:List V} {v:V} (sc:FC P f args 0 [] v 0 []) {i N:Nat} {bl:Bl} (ht:sliceOf (env.getD t .undef)=some (i,N)) (hl:lk L i=some bl) (hro:bl.ro=false) (hk:bl.kind=none)
 (hg:∀ k,k<N→(get k).length=sz) (hc:∀ k j x,k<N→(get k)[j]? =some x→bl.cells[k*sz+j]? =some x∧pureS x=true)
 {args1:List V} (ha:xs.toList.map (ev (env.set t (.s (.frz get sz N))))=args1) (hle:All2 VLe args1 args) (h1:args.all (okV 0)=true) (h2:okV 0 v=true)
 (hw:want ops env o=some true) (k:RegX P ops d (pushR d o [i] [(i,none)] acc) os (setD env o.dst v) n (puts L [(i,none)]) R):CallG P ops d acc o f xs os env n L R:=by
 refine⟨fun⟨ts,ho⟩=>?_⟩;obtain⟨hf,sc⟩:=sc;unfold fnOK at hf;split at hf
 ·rename_i fn hfn
  simp only[Bool.and_eq_true,Bool.not_eq_true'] at hf;have h:=SC.opW (tbl:=[]) (n:=n) (env:=env.set t (.s (.frz get sz N))) (M:=[]) (M':=[]) sc h1 rfl ho rfl hfn hf.1 hf.2 (by rw[ha,renVs_id h1];exact hle) fits_nil (fun x bl h=>by simp[lk] at h);rw[renV_id h2] at h
  have e1:lk (res [i] L) i=some bl:=by rw[lk_res];simp[hl]
  refine RegX.op (foot:=[i]) (wr:=[(i,none)]) hw ?_ (Nat.le_refl _) k;refine OpL.preFz t get sz ht e1 hro hk hg hc ?_;refine OpL.conv (M:=[]) (M':=[]) (fun x hx=>VLe.refl _) (fun j=>?_) (VLe.refl _) (fun j bl hj=>?_) h
  ·show lk (put (res [i] L) i none) j=lk [] j
   rw[lk_put,lk_res];simp only[List.mem_singleton];by_cases e:i=j
   ·rw[if_pos e];rfl
   ·rw[if_neg e,if_neg (fun h=>e h.symm)];rfl
  ·have hj:lk (put (res [i] L) i none) j=some bl:=hj
   rw[lk_put,lk_res] at hj;simp only[List.mem_singleton] at hj;by_cases e:i=j
   ·rw[if_pos e] at hj;cases hj
   ·rw[if_neg e,if_neg (fun h=>e h.symm)] at hj;cases hj
 ·cases hf
end
section
variable {P:Program} {ops:Array Oper} {d:Bool} {acc:List Row} {os:List Oper} {o:Oper} {env:List V} {n:Nat} {L:Hp} {R:Post} {f:FuncId} {xs:Array Operand}
theorem CallG.pl {α:Type} (g:α→S) (dflt:α) (K:List α) (hp:∀ r∈K,pureS (g r)=true) {args:List V} {v:V} (sc:FC P f args 0 [] v 0 []) {t:Tmp} (hx:xs.toList.getLast? =some (.tmp t)) {i N:Nat} {bl:Bl} (ht:sliceOf (env.getD t .undef)=some (i,N)) (hl:lk L i=some bl) (hro:bl.ro=false) (hk:bl.kind=none)
 (hN:N=K.length) (hc:bl.cells=K.map g)
 {args1:List V} (ha:xs.toList.map (ev (env.set t (.s (.frz (fun k=>[g (K.getD k dflt)]) 1 K.length))))=args1) (hle:All2 VLe args1 args) (h1:args.all (okV 0)=true) (h2:okV 0 v=true)
 (hw:want ops env o=some true) (k:RegX P ops d (pushR d o [i] [(i,none)] acc) os (setD env o.dst v) n (puts L [(i,none)]) R):CallG P ops d acc o f xs os env n L R:=by
 subst hN;refine CallG.pz t (fun k=>[g (K.getD k dflt)]) 1 sc ht hl hro hk (fun _ _=>rfl) (fun kk jj x hkk hjx=>?_) ha hle h1 h2 hw k
 cases jj with
 |succ j=>simp at hjx
 |zero=>
  simp only[List.getElem?_cons_zero,Option.some.injEq] at hjx;subst hjx;rw[hc,Nat.mul_one,Nat.add_zero,List.getElem?_map,List.getElem?_eq_getElem hkk,List.getD_eq_getElem?_getD,List.getElem?_eq_getElem hkk];exact⟨rfl,hp _ (List.getElem_mem hkk)⟩
end
section
variable {P:Program} {ops:Array Oper} {d:Bool} {acc:List Row} {os:List Oper} {o:Oper} {env:List V} {n:Nat} {L:Hp} {R:Post} {f:FuncId} {xs:Array Operand}
theorem CallG.mz {α:Type} (q:Nat) (g:α→S) (dflt:α) (K:List α) (hp:∀ r∈K,pureS (g r)=true) (tbl:List Nat) {args0:List V} {L0:Hp} {v0:V} {n0':Nat} {L0':Hp} (sc:FC P f args0 tbl.length L0 v0 n0' L0')
 {t:Tmp} (hx:xs.toList[q]? =some (.tmp t)) {i N:Nat} {bl:Bl} (ht:sliceOf (env.getD t .undef)=some (i,N)) (hl:lk L i=some bl) (hro:bl.ro=false) (hk:bl.kind=none) (hN:N=K.length) (hc:bl.cells=K.map g)
 (hchk:(args0.all (okV tbl.length)&&okH tbl.length L0&&allSaid L0 L0'&&nodupB (keys L0')&&Nat.ble tbl.length n0'&&oldB tbl n n0'&&aliB tbl L0)=true) {args1:List V} (ha:xs.toList.map (ev (env.set t (.s (.frz (fun k=>[g (K.getD k dflt)]) 1 K.length))))=args1) (hle:All2 VLe args1 (args0.map (renV (rn tbl n)))) (ft:FitP tbl n (put (res (i::tbl) L) i none) L0)
 (hw:want ops env o=some true) {v:V} (hv:frcV (renV (rn tbl n) v0) some=some v) {wr:Hp} (hwr:frc (callWr tbl n L0 L0') [] some=some wr)
 (k:RegX P ops d (pushR d o (i::tbl) ((i,none)::wr) acc) os (setD env o.dst v) (n+(n0'-tbl.length)) (puts L ((i,none)::wr)) R):CallG P ops d acc o f xs os env n L R:=by
 subst hN;refine⟨fun⟨ts,ho⟩=>?_⟩;obtain⟨hf,sc⟩:=sc;rw[frcV_eq] at hv;cases hv;rw[frc_eq] at hwr;cases hwr;simp only[Bool.and_eq_true] at hchk;obtain⟨⟨⟨⟨⟨⟨k1,k2⟩,k3⟩,k4⟩,k5⟩,k6⟩,k7⟩:=hchk;unfold fnOK at hf;split at hf
 ·rename_i fn hfn
  simp only[Bool.and_eq_true,Bool.not_eq_true'] at hf;have h:=SC.opW (n:=n) (env:=env.set t (.s (.frz (fun k=>[g (K.getD k dflt)]) 1 K.length))) (M:=put (res (i::tbl) L) i none) sc k1 k2 ho rfl hfn hf.1 hf.2 (ha▸hle) (Fits.of k6 k7 ft) (after_callWr k3 k4)
  have e1:lk (res (i::tbl) L) i=some bl:=by rw[lk_res];simp[hl]
  refine RegX.op (foot:=i::tbl) (wr:=(i,none)::callWr tbl n L0 L0') hw ?_ (Nat.le_add_right _ _) k;refine OpL.preFz t (fun k=>[g (K.getD k dflt)]) 1 ht e1 hro hk (fun _ _=>rfl) (fun kk jj x hkk hjx=>?_) h
  cases jj with
  |succ j=>simp at hjx
  |zero=>
   simp only[List.getElem?_cons_zero,Option.some.injEq] at hjx;subst hjx;rw[hc,Nat.mul_one,Nat.add_zero,List.getElem?_map,List.getElem?_eq_getElem hkk,List.getD_eq_getElem?_getD,List.getElem?_eq_getElem hkk];exact⟨rfl,hp _ (List.getElem_mem hkk)⟩
 ·cases hf
end
theorem all2_set {α β:Type} {r:α→β→Prop}:∀ {l:List α} {xs:List β} {o:Nat} {v:α},All2 r l xs→(∀ x,xs[o]? =some x→r v x)→All2 r (l.set o v) xs
 |[],[],_,_,_,_=>trivial
 |[],_::_,_,_,h,_=>h.elim
 |_::_,[],_,_,h,_=>h.elim
 |a::l,x::xs,0,v,h,hv=>⟨hv x rfl,h.2⟩
 |a::l,x::xs,o+1,v,h,hv=>⟨h.1,all2_set h.2 fun y hy=>hv y (by simpa using hy)⟩
theorem all2_at {α β:Type} {r:α→β→Prop}:∀ {l:List α} {xs:List β} {o:Nat} {s:α} {x:β},All2 r l xs→l[o]? =some s→xs[o]? =some x→r s x
 |[],_,_,_,_,_,h,_=>by simp at h
 |_::_,[],_,_,_,h,_,_=>h.elim
 |a::l,x::xs,0,s,y,h,h1,h2=>by
  simp only[List.getElem?_cons_zero,Option.some.injEq] at h1 h2;subst h1;subst h2;exact h.1
 |a::l,x::xs,o+1,s,y,h,h1,h2=>all2_at h.2 (by simpa using h1) (by simpa using h2)
section
variable {P:Program} {b:Nat} {env:List V} {n:Nat} {L:Hp} {R:Post} {c:Code}
theorem Ex.fzC (j o:Nat) (get:Nat→List S) (sz:Nat) {s:S} {i N:Nat} {bl blj:Bl} (hlj:lk L j=some blj) (hij:i≠j) (hs:blj.cells[o]? =some s) (ht:sliceOf (.s s)=some (i,N)) (hl:lk L i=some bl) (hro:bl.ro=false) (hk:bl.kind=none)
 (hg:∀ k,k<N→(get k).length=sz) (hc:∀ k j x,k<N→(get k)[j]? =some x→bl.cells[k*sz+j]? =some x∧pureS x=true)
 {L':Hp} (hL:put (put L i none) j (some {blj with cells:=blj.cells.set o (.frz get sz N)})=L') (k:Ex P b c env n L' R):Ex P b c env n L R:=by
 subst hL;intro φ a w h1 h2 h3 h4;obtain⟨φ',e1,hle,hz,hg',hsl⟩:=fz_core h2 get sz (i:=i) (N:=N) hl hro hk hg hc
 have hlj':lk (put L i none) j=some blj:=by rw[lk_put,if_neg hij];exact hlj
 have sub1:∀ jj b',lk (put (put L i none) j (some {blj with cells:=blj.cells.set o (.frz get sz N)})) jj=some b'→∃ b0,lk (put L i none) jj=some b0∧b'.ro=b0.ro:=by
  intro jj b' h;rw[lk_put] at h;split at h
  ·rename_i e;subst e;cases h;exact⟨blj,hlj',rfl⟩
  ·exact⟨b',h,rfl⟩
 have subL:∀ jj b',lk (put L i none) jj=some b'→lk L jj=some b':=by
  intro jj b' h;rw[lk_put] at h;split at h
  ·cases h
  ·exact h
 have wr1:∀ x,Wr φ' (put (put L i none) j (some {blj with cells:=blj.cells.set o (.frz get sz N)})) x→Wr φ' (put L i none) x:=by
  rintro x ⟨jj,bj,c,h1,h2,h3,h4⟩;obtain⟨b0,q1,q2⟩:=sub1 jj bj h1;exact⟨jj,b0,c,q1,h2,h3,q2▸h4⟩
 have wrL:∀ x,Wr φ' (put L i none) x→Wr φ L x:=by
  rintro x ⟨jj,bj,c,h1,h2,h3,h4⟩;exact⟨jj,bj,c,subL _ _ h1,by rw[e1] at h2;exact h2,h3,h4⟩
 have good2:Good φ' (put (put L i none) j (some {blj with cells:=blj.cells.set o (.frz get sz N)})) w:=by
  refine⟨fun jj bj hj=>?_,fun x y bx bl' b1 b2 hx hy hb1 hb2 e=>?_,fun x l hx=>⟨(hg'.fz x l hx).1,fun hw=>(hg'.fz x l hx).2 (wr1 x hw)⟩,hg'.gz⟩
  ·rw[lk_put] at hj
   split at hj
   ·rename_i e;subst e;cases hj
    obtain⟨b0,hb0,pre,xs,rest,fr,p1,p2,p3,p4,p5,p6,p7⟩:=h2.hr j blj hlj;refine⟨b0,hle _ _ hb0,pre,xs,rest,fr,p1,p2,?_,p4,p5,fun g z e=>?_,p7⟩
    ·refine all2_set (p3.mono fun _ _=>Sr.mono (blj.ph_le hle)) fun x hx=>?_
     have hx3:Vr φ (.s s) x:=(all2_at p3 hs hx).mono (blj.ph_le_self φ);have hf:Pr φ'.z (.frz get sz N) x:=hsl (.s s) x ht hx3;show Pr (blj.ph φ').z (.frz get sz N) x;rw[Bl.ph_z];exact hf
    ·obtain⟨k,hk,hz⟩:=p6 g z e
     exact⟨k,hle _ _ hk,hz⟩
   ·exact hg'.hr jj bj hj
  ·obtain⟨x0,q1,q2⟩:=sub1 x bx hx
   obtain⟨y0,r1,r2⟩:=sub1 y bl' hy;rw[q2,r2];exact hg'.inj x y x0 y0 b1 b2 q1 r1 hb1 hb2 e
 refine wp_mono (k φ' a w ⟨h1.1,h1.2.mono fun _ _=>Vr.mono hle⟩ good2 (fun i hi=>by rw[e1];exact h3 i hi) h4) ?_;rintro x a' w' ⟨φ2,e,m,M,hR,k1,k2,k3,k4,k5,k6⟩
 have back:∀ jj b',lk (put (put L i none) j (some {blj with cells:=blj.cells.set o (.frz get sz N)})) jj=some b'→∃ b0,lk L jj=some b0∧b'.ro=b0.ro:=by
  intro jj b' h;obtain⟨b0,q1,q2⟩:=sub1 jj b' h;exact⟨b0,subL _ _ q1,q2⟩
 refine⟨φ2,e,m,M,hR,k1,k2,k3,k4,⟨k5.os,k5.tape,k5.output,k5.size,fun d hd hn=>k5.keep d hd fun hw=>hn (wrL d (wr1 d hw)),fun jj bl1 d hj hd hlt'=>?_,fun x l hx=>k5.zle x l (hle.z x l hx),fun x l hx=>?_⟩,fun i hi=>by rw[k6 i hi,e1]⟩
 ·obtain⟨kk,bl',c,hkk,hc',q1,q2,q3⟩:=k5.fresh jj bl1 d hj hd hlt'
  obtain⟨b0,r1,r2⟩:=back kk bl' hkk;exact⟨kk,b0,c,r1,by rw[e1] at hc';exact hc',q1,fun h=>q2 (r2.trans h),q3.imp id fun h=>r2▸h⟩
 ·rcases k5.zfr x l hx with q|q|q
  ·rcases hz x l q with q|q
   ·exact .inl q
   ·exact .inr (.inr q)
  ·exact .inr (.inl q)
  ·exact .inr (.inr (wrL x (wr1 x q)))
end
theorem flat_get {α:Type} (g:α→List S) (w:Nat) (d:α) (hw:∀ a,(g a).length=w):∀ {l:List α} {k j:Nat} {x:S},k<l.length→(g (l.getD k d))[j]? =some x→(l.flatMap g)[k*w+j]? =some x
 |[],k,j,x,hk,_=>by simp at hk
 |a::l,0,j,x,hk,hx=>by
  have hj:j<(g a).length:=by
   rcases Nat.lt_or_ge j (g a).length with h|h
   ·exact h
   ·exfalso;simp only[List.getD_cons_zero] at hx;rw[List.getElem?_eq_none h] at hx;cases hx
  rw[Nat.zero_mul,Nat.zero_add,List.flatMap_cons,List.getElem?_append_left hj];exact hx
 |a::l,k+1,j,x,hk,hx=>by
  have:=flat_get g w d hw (l:=l) (k:=k) (j:=j) (x:=x) (by simpa using hk) hx;rw[List.flatMap_cons,List.getElem?_append_right (by rw[hw,Nat.succ_mul];omega),hw];rw[show (k+1)*w+j-w=k*w+j by rw[Nat.succ_mul];omega];exact this
theorem SC.froz {P:Program} {f:FuncId} {args:List V} {v:V} {n':Nat} {L':Hp} (h:SC P f args 0 [] v n' L') (get:Nat→List S) (sz:Nat) {i N:Nat} {bl:Bl} (hl:lk L' i=some bl) (hro:bl.ro=false) (hk:bl.kind=none)
 (hg:∀ k,k<N→(get k).length=sz) (hc:∀ k j x,k<N→(get k)[j]? =some x→bl.cells[k*sz+j]? =some x∧pureS x=true)
 {v':V} (hv:∀ (φ ψ:Ph) (x:Value),(∀ u y,sliceOf u=some (i,N)→Vr φ u y→Vr ψ (.s (.frz get sz N)) y)→Vr φ v x→Vr ψ v' x):SC P f args 0 [] v' 0 []:=by
 intro φ xs w hx hgd hf;refine (h φ xs w hx hgd hf).mono ?_;rintro e w' ⟨φ',x,rfl,hvx,hg',hn,st,_,_⟩;obtain⟨φ2,e1,hle,hz,hg2,hsl⟩:=fz_core hg' get sz (i:=i) (N:=N) hl hro hk hg hc;refine⟨⟨φ.f,φ2.z⟩,x,rfl,hv φ' ⟨φ.f,φ2.z⟩ x (fun u y hu hy=>?_) hvx,⟨fun j b hj=>(by cases hj),fun j k b b' _ _ hj=>(by cases hj),fun b l hb=>⟨(hg2.fz b l hb).1,fun hw=>?_⟩,hg2.gz⟩,hf,⟨st.os,st.tape,st.output,st.size,st.keep,fun j b _ hj=>(by cases hj),fun b l hb=>hle.z b l (st.zle b l hb),fun b l hb=>?_⟩,Nat.le_refl _,fun _ _=>rfl⟩
 ·exact hsl u y hu hy
 ·obtain⟨j,b',c,hj,_⟩:=hw;cases hj
 ·rcases hz b l hb with q|⟨j,b',c,hj,hc',rfl,hr⟩
  ·exact st.zfr b l q
  ·rcases Nat.lt_or_ge c.1 w.heap.size with hlt|hge
   ·obtain⟨k,b2,c2,hk2,_⟩:=st.fresh j b' c hj hc' hlt
    cases hk2
   ·exact .inr (.inl hge)
section
variable {P:Program} {b:Nat} {env:List V} {n:Nat} {L:Hp} {R:Post} {c:Code}
theorem Ex.fzR {α:Type} (t:Nat) (g:α→List S) (w:Nat) (d:α) (l:List α) {i gn ty:Nat} (ht:env.getD t .undef=.s (.row i gn l.length)) (hl:lk L i=opB ty gn w (l.flatMap g)) (hw:∀ a,(g a).length=w) (hp:∀ (a:α) (j:Nat) (x:S),(g a)[j]? =some x→pureS x=true) (hw0:0<w)
 {env':List V} (he:env.set t (.s (.frz (fun k=>g (l.getD k d)) w l.length))=env') {L':Hp} (hL:put L i none=L') (k:Ex P b c env' n L' R):Ex P b c env n L R:=by
 have sub:Sub L' L:=by
  intro j bj hj;rw[←hL,lk_put] at hj;split at hj
  ·cases hj
  ·exact hj
 cases l with
 |nil=>exact Ex.set t _ (by rw[ht];exact VLe.s SLe.row0) he (Ex.sub sub k)
 |cons a l=>
  have hne:(a::l).flatMap g≠[]:=by
   rw[List.flatMap_cons];have:=hw a
   cases hga:g a with
   |nil=>rw[hga] at this;simp at this;omega
   |cons x xs=>simp
  obtain⟨x,xs,hx⟩:=List.exists_cons_of_ne_nil hne;rw[hx] at hl;have hl:lk L i=some {cells:=x::xs,ty:=ty,more:=true,sym:=true,flat:=true,gh:=some (gn,w)}:=hl;refine Ex.fz t _ w (i:=i) (N:=(a::l).length) (by rw[ht];rfl) hl rfl rfl (fun k _=>hw _) (fun k j y hk hy=>⟨?_,hp _ _ _ hy⟩) he hL k;show (x::xs)[k*w+j]? =_;rw[←hx];exact flat_get g w d hw hk hy
end
inductive T (α:Type) where
 |nil
 |node (v:Option α) (a b c d:T α)
def T.get {α:Type}:T α→Nat→Option α
 | .nil,_=>none
 | .node v a b c d,i=>
   match i with
   |0=>v
   |j+1=>
    match Nat.beq (Nat.land j 1) 0 with
    |true=>(match Nat.beq (Nat.land j 2) 0 with|true=>a.get (Nat.div j 4)|false=>c.get (Nat.div j 4))
    |false=>(match Nat.beq (Nat.land j 2) 0 with|true=>b.get (Nat.div j 4)|false=>d.get (Nat.div j 4))
def T.one {α β:Type} (x:Option α):Nat→Nat→(T α→β)→β
 |0,_,k=>k .nil
 |f+1,i,k=>
  match i with
  |0=>k (.node x .nil .nil .nil .nil)
  |j+1=>
   match Nat.beq (Nat.land j 1) 0 with
   |true=>(match Nat.beq (Nat.land j 2) 0 with|true=>T.one x f (Nat.div j 4) fun t=>k (.node none t .nil .nil .nil)|false=>T.one x f (Nat.div j 4) fun t=>k (.node none .nil .nil t .nil))
   |false=>(match Nat.beq (Nat.land j 2) 0 with|true=>T.one x f (Nat.div j 4) fun t=>k (.node none .nil t .nil .nil)|false=>T.one x f (Nat.div j 4) fun t=>k (.node none .nil .nil .nil t))
def T.putK {α β:Type} (x:Option α):T α→Nat→(T α→β)→β
 | .nil,i,k=>T.one x (Nat.succ i) i k
 | .node v a b c d,i,k=>
   match i with
   |0=>k (.node x a b c d)
   |j+1=>
    match Nat.beq (Nat.land j 1) 0 with
    |true=>(match Nat.beq (Nat.land j 2) 0 with|true=>T.putK x a (Nat.div j 4) fun t=>k (.node v t b c d)|false=>T.putK x c (Nat.div j 4) fun t=>k (.node v a b t d))
    |false=>(match Nat.beq (Nat.land j 2) 0 with|true=>T.putK x b (Nat.div j 4) fun t=>k (.node v a t c d)|false=>T.putK x d (Nat.div j 4) fun t=>k (.node v a b c t))
def T.put {α:Type} (t:T α) (i:Nat) (x:Option α):T α:=T.putK x t i id
theorem land_one (i:Nat):Nat.beq (Nat.land i 1) 0=decide (i%2=0):=by
 have:Nat.land i 1=i%2:=Nat.and_one_is_mod i;rw[this]
 rcases Nat.mod_two_eq_zero_or_one i with h|h<;>rw[h]<;>rfl
theorem beq_dec (i j:Nat):Nat.beq i j=decide (i=j):=by
 by_cases h:i=j
 ·subst h;simp
 ·simp[h,beq_no h]
theorem land_two (i:Nat):Nat.beq (Nat.land i 2) 0=decide (i/2%2=0):=by
 have h:Nat.land i 2=2*(i/2%2):=by
  show i&&&2=_
  have e:i&&&2=2*((i/2)&&&1):=by
   apply Nat.eq_of_testBit_eq;intro k;rw[Nat.testBit_and]
   cases k with
   |zero=>simp
   |succ k=>
    rw[show (2:Nat)*((i/2)&&&1)=2^1*((i/2)&&&1) by simp,Nat.testBit_two_pow_mul];simp only[Nat.testBit_and,Nat.testBit_div_two,ge_iff_le,Nat.le_add_left,decide_true,Bool.true_and,Nat.add_sub_cancel];congr 1;rw[show (2:Nat)=2^1 by rfl,Nat.testBit_two_pow]
    cases k with
    |zero=>simp
    |succ k=>simp[Nat.testBit_succ]
  rw[e,Nat.and_one_is_mod]
 rw[h,beq_dec];congr 1;apply propext;omega
theorem T.get_nil {α:Type} (j:Nat):(T.nil:T α).get j=none:=by cases j<;>rfl
def T.sel {α:Type} (j:Nat) (a b c d:α):α:=if j%2=0 then (if j/2%2=0 then a else c) else (if j/2%2=0 then b else d)
theorem T.get_node {α:Type} (v:Option α) (a b c d:T α) (j:Nat):(T.node v a b c d).get j=if j=0 then v else (T.sel (j-1) a b c d).get ((j-1)/4):=by
 cases j with
 |zero=>rfl
 |succ j=>
  show (match Nat.beq (Nat.land j 1) 0 with
   |true=>(match Nat.beq (Nat.land j 2) 0 with|true=>a.get (Nat.div j 4)|false=>c.get (Nat.div j 4))
   |false=>(match Nat.beq (Nat.land j 2) 0 with|true=>b.get (Nat.div j 4)|false=>d.get (Nat.div j 4)))=_
  rw[land_one,land_two];have e:Nat.div j 4=j/4:=rfl;rw[e];simp only[Nat.add_one_ne_zero,if_false,Nat.add_sub_cancel,T.sel]
  by_cases h1:j%2=0<;>by_cases h2:j/2%2=0<;>simp[h1,h2]
theorem T.one_eq {α β:Type} (x:Option α):∀ (f i:Nat) (k:T α→β),T.one x f i k=k (T.one x f i id)
 |0,_,k=>rfl
 |f+1,0,k=>rfl
 |f+1,j+1,k=>by
  simp only[T.one]
  split<;>split
  ·exact (T.one_eq x f _ (fun t=>k (T.node none t .nil .nil .nil))).trans (congrArg k (T.one_eq x f _ (fun t=>id (T.node none t .nil .nil .nil))).symm)
  ·exact (T.one_eq x f _ (fun t=>k (T.node none .nil .nil t .nil))).trans (congrArg k (T.one_eq x f _ (fun t=>id (T.node none .nil .nil t .nil))).symm)
  ·exact (T.one_eq x f _ (fun t=>k (T.node none .nil t .nil .nil))).trans (congrArg k (T.one_eq x f _ (fun t=>id (T.node none .nil t .nil .nil))).symm)
  ·exact (T.one_eq x f _ (fun t=>k (T.node none .nil .nil .nil t))).trans (congrArg k (T.one_eq x f _ (fun t=>id (T.node none .nil .nil .nil t))).symm)
theorem T.putK_eq {α β:Type} (x:Option α):∀ (t:T α) (i:Nat) (k:T α→β),T.putK x t i k=k (t.put i x)
 | .nil,i,k=>T.one_eq x _ i k
 | .node v a b c d,0,k=>rfl
 | .node v a b c d,j+1,k=>by
   simp only[T.put,T.putK]
   split<;>split
   ·exact (T.putK_eq x a _ (fun t=>k (T.node v t b c d))).trans (congrArg k (T.putK_eq x a _ (fun t=>id (T.node v t b c d))).symm)
   ·exact (T.putK_eq x c _ (fun t=>k (T.node v a b t d))).trans (congrArg k (T.putK_eq x c _ (fun t=>id (T.node v a b t d))).symm)
   ·exact (T.putK_eq x b _ (fun t=>k (T.node v a t c d))).trans (congrArg k (T.putK_eq x b _ (fun t=>id (T.node v a t c d))).symm)
   ·exact (T.putK_eq x d _ (fun t=>k (T.node v a b c t))).trans (congrArg k (T.putK_eq x d _ (fun t=>id (T.node v a b c t))).symm)
theorem T.get_one {α:Type} (x:Option α):∀ (f i j:Nat),i<f→(T.one x f i id).get j=if i=j then x else none
 |0,i,_,h=>by omega
 |f+1,0,j,h=>by
  show (T.node x .nil .nil .nil .nil).get j=_;rw[T.get_node]
  cases j with
  |zero=>rfl
  |succ j=>simp only[Nat.add_one_ne_zero,if_false,T.sel];(repeat' split)<;>simp_all[T.get_nil]
 |f+1,i+1,j,h=>by
  simp only[T.one];rw[land_one,land_two];have e:Nat.div i 4=i/4:=rfl;rw[e];have ih:=T.get_one x f (i/4) ((j-1)/4) (by omega)
  by_cases h1:i%2=0<;>by_cases h2:i/2%2=0<;>simp only[h1,h2,decide_true,decide_false]<;>rw[T.one_eq]<;>simp only[id,T.get_node]<;>cases j with
  |zero=>simp
  |succ j=>
   simp only[Nat.add_one_ne_zero,if_false,Nat.add_sub_cancel,T.sel] at ih ⊢
   by_cases g1:j%2=0<;>by_cases g2:j/2%2=0<;>simp only[g1,g2,if_true,if_false,T.get_nil]<;>first
    |(rw[if_neg (by omega)];done)
    |(rw[show (T.one x f (i/4) fun a=>a)=T.one x f (i/4) id from rfl,ih]
      have:i/4=j/4↔i+1=j+1:=by omega
      simp only[this])
    |(rw[ih]
      have:i/4=j/4↔i+1=j+1:=by omega
      simp only[this])
theorem T.get_put {α:Type}:∀ (t:T α) (i:Nat) (x:Option α) (j:Nat),(t.put i x).get j=if i=j then x else t.get j
 | .nil,i,x,j=>by
   show (T.one x (Nat.succ i) i id).get j=_;rw[T.get_one x _ _ _ (Nat.lt_succ_self _),T.get_nil]
 | .node v a b c d,0,x,j=>by
   show (T.node x a b c d).get j=_;rw[T.get_node,T.get_node]
   cases j with
   |zero=>rfl
   |succ j=>simp
 | .node v a b c d,i+1,x,j=>by
   simp only[T.put,T.putK];rw[land_one,land_two];have e:Nat.div i 4=i/4:=rfl;rw[e];have iha:=T.get_put a (i/4) x ((j-1)/4);have ihb:=T.get_put b (i/4) x ((j-1)/4);have ihc:=T.get_put c (i/4) x ((j-1)/4);have ihd:=T.get_put d (i/4) x ((j-1)/4)
   by_cases h1:i%2=0<;>by_cases h2:i/2%2=0<;>simp only[h1,h2,decide_true,decide_false]<;>rw[T.putK_eq]<;>simp only[id,T.get_node]<;>cases j with
   |zero=>simp
   |succ j=>
    simp only[Nat.add_one_ne_zero,if_false,Nat.add_sub_cancel,T.sel] at iha ihb ihc ihd ⊢
    by_cases g1:j%2=0<;>by_cases g2:j/2%2=0<;>simp only[g1,g2,if_true,if_false]<;>first
     |(rw[if_neg (by omega)];done)
     |(first|rw[iha]|rw[ihb]|rw[ihc]|rw[ihd]
       have:i/4=j/4↔i+1=j+1:=by omega
       simp only[this])
def T.puts {α:Type}:T α→List (Nat×Option α)→T α
 |t,[]=>t
 |t,(i,x)::r=>T.puts (t.put i x) r
def frcN {β:Type} (n:Nat) (k:Nat→β):β:=match n with|0=>k 0|m+1=>k (Nat.succ m)
theorem frcN_eq {β:Type} (n:Nat) (k:Nat→β):frcN n k=k n:=by cases n<;>rfl
def frcI {β:Type} (z:Int) (k:Int→β):β:=match z with| .ofNat n=>frcN n fun n=>k (.ofNat n)| .negSucc n=>frcN n fun n=>k (.negSucc n)
theorem frcI_eq {β:Type} (z:Int) (k:Int→β):frcI z k=k z:=by cases z<;>simp only[frcI,frcN_eq]
def frcA {β:Type} (a:Option (Nat×Nat)) (k:Option (Nat×Nat)→β):β:=match a with|none=>k none|some (i,o)=>frcN i fun i=>frcN o fun o=>k (some (i,o))
theorem frcA_eq {β:Type} (a:Option (Nat×Nat)) (k:Option (Nat×Nat)→β):frcA a k=k a:=by rcases a with _|⟨i,o⟩<;>simp only[frcA,frcN_eq]
def frcC {β:Type} (a:Option Nat) (k:Option Nat→β):β:=match a with|none=>k none|some i=>frcN i fun i=>k (some i)
theorem frcC_eq {β:Type} (a:Option Nat) (k:Option Nat→β):frcC a k=k a:=by cases a<;>simp only[frcC,frcN_eq]
def frcTm {β:Type} (t:Tm) (k:Tm→β):β:=
 match t with
 | .v i=>frcN i fun i=>k (.v i)
 | .c z=>frcN z fun z=>k (.c z)
 | .bin o kd a b=>frcTm a fun a=>frcTm b fun b=>match o with| .add=>k (.bin .add kd a b)|o=>k (.bin o kd a b)
theorem frcTm_eq {β:Type}:∀ (t:Tm) (k:Tm→β),frcTm t k=k t
 | .v i,k=>by simp only[frcTm,frcN_eq]
 | .c z,k=>by simp only[frcTm,frcN_eq]
 | .bin o kd a b,k=>by
   simp only[frcTm,frcTm_eq a,frcTm_eq b]
   cases o<;>rfl
def frcKn {β:Type} (K:Kn) (k:Kn→β):β:=match K with|⟨lo,hi,m⟩=>frcN lo fun lo=>frcN hi fun hi=>k ⟨lo,hi,m⟩
theorem frcKn_eq {β:Type} (K:Kn) (k:Kn→β):frcKn K k=k K:=by cases K;simp only[frcKn,frcN_eq]
def frcS {β:Type} (x:S) (k:S→β):β:=
 match x with
 | .int kd z=>frcI z fun z=>k (.int kd z)
 | .bool b=>match b with|true=>k (.bool true)|false=>k (.bool false)
 | .str l=>frc l [] fun l=>k (.str l)
 | .ptr a=>frcA a fun a=>k (.ptr a)
 | .slc a n c=>frcA a fun a=>frcN n fun n=>frcC c fun c=>k (.slc a n c)
 | .sla i g n=>frcN i fun i=>frcN g fun g=>frcN n fun n=>k (.sla i g n)
 | .itr i m=>frcN i fun i=>frcN m fun m=>k (.itr i m)
 | .clo f ps=>frc ps [] fun ps=>k (.clo f ps)
 | .opq kd t K=>frcTm t fun t=>frcKn K fun K=>k (.opq kd t K)
 |x=>k x
theorem frcS_eq {β:Type} (x:S) (k:S→β):frcS x k=k x:=by
 cases x<;>simp only[frcS,frcI_eq,frc_eq,frcA_eq,frcN_eq,frcC_eq,frcTm_eq,frcKn_eq]
 split<;>rfl
def frcW {β:Type} (v:V) (k:V→β):β:=
 match v with
 | .s x=>frcS x fun x=>k (.s x)
 | .agg l=>frc l [] fun l=>k (.agg l)
 | .tup l=>frc l [] fun l=>k (.tup l)
 |v=>k v
theorem frcW_eq {β:Type} (v:V) (k:V→β):frcW v k=k v:=by cases v<;>simp only[frcW,frcS_eq,frc_eq]
def evT (env:T V):Operand→V
 | .tmp t=>match env.get t with|some v=>v|none=> .undef
 | .const v=>ofConst v
 | .func f=> .s (.fn f)
 | .global g=> .s (.gp g 0)
def OutR (P:Program) (o:Oper) (env:List V) (n:Nat) (L:Hp) (r:R):Prop:=
 OpL P o env n (res r.foot L) r.v r.n' (puts (res r.foot L) r.wr)∧n≤r.n'
theorem OutR.of {P:Program} {o:Oper} {env:List V} {n:Nat} {L:Hp} {r:R} {ans as:List Ans} {C:Prop} (h:aop P o env n L ans=some ⟨r,as,C⟩) (hC:C):OutR P o env n L r:=aop_ok h hC
def notB (b:Bool):Bool:=match b with|true=>false|false=>true
theorem notB_eq (b:Bool):notB b= !b:=by cases b<;>rfl
def inR (k:IntKind) (z:Int):Bool:=
 match k with
 | .i64=>match z with| .ofNat n=>Nat.ble n 9223372036854775807| .negSucc n=>Nat.ble n 9223372036854775807
 | .u64=>match z with| .ofNat n=>Nat.ble n 18446744073709551615| .negSucc _=>false
 | .u8=>match z with| .ofNat n=>Nat.ble n 255| .negSucc _=>false
 | .u32=>match z with| .ofNat n=>Nat.ble n 4294967295| .negSucc _=>false
 | .i32=>match z with| .ofNat n=>Nat.ble n 2147483647| .negSucc n=>Nat.ble n 2147483647
 |_=>false
def wrapF (k:IntKind) (z:Int):Int:=match inR k z with|true=>z|false=>k.wrap z
theorem wrapF_eq (k:IntKind) (z:Int):wrapF k z=k.wrap z:=by
 unfold wrapF;split
 ·rename_i h
  symm
  cases k<;>simp only[inR,Bool.false_eq_true] at h
  all_goals
   refine wrap_in ?_ ?_<;>simp only[IntKind.min,IntKind.max,IntKind.bits,IntKind.signed,Bool.false_eq_true,if_false,if_true]<;>cases z<;>first|(simp only[Bool.false_eq_true] at h;done)|(have:=Nat.le_of_ble_eq_true h;simp;try omega)
 ·rfl
def ltI (a b:Int):Bool:=
 match a with
 | .ofNat m=>match b with| .ofNat n=>Nat.blt m n| .negSucc _=>false
 | .negSucc m=>match b with| .ofNat _=>true| .negSucc n=>Nat.blt n m
theorem blt_dec (m n:Nat):Nat.blt m n=decide (m<n):=by
 cases h:Nat.blt m n with
 |true=>have:=blt_iff.1 h;simp[this]
 |false=>
  have: ¬m<n:=fun e=>by rw[blt_iff.2 e] at h;cases h
  simp[this]
theorem ltI_eq (a b:Int):ltI a b=decide (a<b):=by
 cases a<;>cases b<;>simp only[ltI,blt_dec]<;>first|(congr 1;apply propext;constructor<;>intro h<;>omega)|(symm;simp;done)|(symm;simp;omega)
def eqI (a b:Int):Bool:=
 match a with
 | .ofNat m=>match b with| .ofNat n=>Nat.beq m n| .negSucc _=>false
 | .negSucc m=>match b with| .ofNat _=>false| .negSucc n=>Nat.beq m n
theorem eqI_eq (a b:Int):eqI a b=(a==b):=by
 have key:∀ m n:Nat,Nat.beq m n=decide (m=n):=fun m n=>by
  by_cases h:m=n
  ·subst h;simp
  ·simp[h,beq_no h]
 cases a<;>cases b<;>simp only[eqI,key]
 ·rename_i m n;by_cases h:m=n
  ·subst h;simp
  ·have: ¬((Int.ofNat m:Int)=Int.ofNat n):=fun e=>h (by injection e)
   simp only[h,decide_false];symm;rw[beq_eq_false_iff_ne];exact this
 ·symm;rw[beq_eq_false_iff_ne];intro h;cases h
 ·symm;rw[beq_eq_false_iff_ne];intro h;cases h
 ·rename_i m n;by_cases h:m=n
  ·subst h;simp
  ·have: ¬((Int.negSucc m:Int)=Int.negSucc n):=fun e=>h (by injection e)
   simp only[h,decide_false];symm;rw[beq_eq_false_iff_ne];exact this
def natOf (z:Int):Option Nat:=match z with| .ofNat n=>some n| .negSucc _=>none
theorem natOf_eq {z:Int} {n:Nat} (h:natOf z=some n):z=(n:Int):=by cases z<;>simp[natOf] at h;subst h;rfl
def kIntE (op:BinOp) (k:IntKind) (a b:Int):Option S:=
 match op with
 | .add=>some (.int k (wrapF k (a+b)))
 | .sub=>some (.int k (wrapF k (a-b)))
 | .mul=>some (.int k (wrapF k (a*b)))
 | .quo=>match eqI b 0 with|true=>none|false=>some (.int k (wrapF k (a.tdiv b)))
 | .rem=>match eqI b 0 with|true=>none|false=>some (.int k (a.tmod b))
 | .and=>some (.int k (bitV .and k a b))
 | .or=>some (.int k (bitV .or k a b))
 | .xor=>some (.int k (bitV .xor k a b))
 | .andNot=>some (.int k (bitV .andNot k a b))
 | .eql=>some (.bool (eqI a b))
 | .neq=>some (.bool (notB (eqI a b)))
 | .lss=>some (.bool (ltI a b))
 | .leq=>some (.bool (notB (ltI b a)))
 | .gtr=>some (.bool (ltI b a))
 | .geq=>some (.bool (notB (ltI a b)))
 |_=>none
def kInt (op:BinOp) (k:IntKind) (a:Int) (k':IntKind) (b:Int):Option S:=
 match op with
 | .shl=>match natOf b with|some m=>some (.int k (wrapF k (a*2^(min m k.bits))))|none=>none
 | .shr=>match natOf b with|some m=>some (.int k (a.fdiv (2^(min m k.bits))))|none=>none
 |op=>match kEq k k' with|true=>kIntE op k a b|false=>none
theorem kIntE_ok {op:BinOp} {k:IntKind} {a b:Int} {s:S} (h:kIntE op k a b=some s):∃ ans as C,binI op k a b ans=some (s,as,C)∧C:=by
 have nz:eqI b 0=false→b≠0:=fun h=>by rw[eqI_eq] at h;simpa using h
 cases op<;>simp only[kIntE,Option.some.injEq,reduceCtorEq] at h
 case add=>subst h;exact⟨[.num (wrapF k (a+b))],[],_,rfl,trivial,(wrapF_eq _ _).symm⟩
 case sub=>subst h;exact⟨[.num (wrapF k (a-b))],[],_,rfl,trivial,(wrapF_eq _ _).symm⟩
 case mul=>subst h;exact⟨[.num (wrapF k (a*b))],[],_,rfl,trivial,(wrapF_eq _ _).symm⟩
 case quo=>
  split at h
  ·cases h
  ·rename_i hb;cases h;exact⟨[.num (wrapF k (a.tdiv b))],[],_,rfl,nz hb,(wrapF_eq _ _).symm⟩
 case rem=>
  split at h
  ·cases h
  ·rename_i hb;cases h;exact⟨[],[],_,rfl,nz hb,trivial⟩
 case and=>subst h;exact⟨[],[],_,rfl,trivial,trivial⟩
 case or=>subst h;exact⟨[],[],_,rfl,trivial,trivial⟩
 case xor=>subst h;exact⟨[],[],_,rfl,trivial,trivial⟩
 case andNot=>subst h;exact⟨[],[],_,rfl,trivial,trivial⟩
 case eql=>subst h;exact⟨[],[],True,by rw[eqI_eq];rfl,trivial⟩
 case neq=>subst h;exact⟨[],[],True,by rw[eqI_eq,notB_eq];rfl,trivial⟩
 case lss=>subst h;exact⟨[],[],True,by rw[ltI_eq];rfl,trivial⟩
 case leq=>
  subst h;refine⟨[],[],True,?_,trivial⟩;rw[show notB (ltI b a)=decide (a≤b) by rw[ltI_eq,notB_eq];by_cases e:b<a<;>simp[e]<;>omega];rfl
 case gtr=>subst h;exact⟨[],[],True,by rw[ltI_eq];rfl,trivial⟩
 case geq=>
  subst h;refine⟨[],[],True,?_,trivial⟩;rw[show notB (ltI a b)=decide (a≥b) by rw[ltI_eq,notB_eq];by_cases e:a<b<;>simp[e]<;>omega];rfl
theorem kInt_ok {op:BinOp} {k:IntKind} {a:Int} {k':IntKind} {b:Int} {s:S} (h:kInt op k a k' b=some s):∃ ans as C,aBinI op k a k' b ans=some (s,as,C)∧C:=by
 unfold kInt at h;split at h
 ·split at h
  ·rename_i m hm;cases h
   have:=natOf_eq hm;subst this;exact⟨[.num (wrapF k (a*2^(min m k.bits)))],[],_,rfl,by simp[wrapF_eq]⟩
  ·cases h
 ·split at h
  ·rename_i m hm;cases h
   have:=natOf_eq hm;subst this;exact⟨[],[],_,rfl,by simp⟩
  ·cases h
 ·rename_i h1 h2
  split at h
  ·rename_i hk
   obtain⟨ans,as,C,g1,g2⟩:=kIntE_ok h;refine⟨ans,as,C,?_,g2⟩;unfold aBinI;split
   ·exact absurd rfl h1
   ·exact absurd rfl h2
   ·simp only[hk];exact g1
  ·cases h
def eqB:List UInt8→List UInt8→Bool
 |[],[]=>true
 |a::s,b::t=>match Nat.beq a.toNat b.toNat with|true=>eqB s t|false=>false
 |_,_=>false
theorem eqB_eq:∀ (s t:List UInt8),eqB s t=decide (s=t)
 |[],[]=>rfl
 |[],_::_=>by simp[eqB]
 |_::_,[]=>by simp[eqB]
 |a::s,b::t=>by
  simp only[eqB];by_cases h:a.toNat=b.toNat
  ·have hab:a=b:=UInt8.toNat_inj.1 h
   subst hab;simp[eqB_eq s t]
  ·rw[beq_no h]
   have hab: ¬a=b:=fun e=>h (by rw[e])
   simp[hab]
def kStr (op:BinOp) (x y:List UInt8):Option S:=
 match op with
 | .add=>match Nat.ble (x.length+y.length) 9223372036854775807 with|true=>some (.str (x++y))|false=>none
 | .eql=>some (.bool (eqB x y))
 | .neq=>some (.bool (notB (eqB x y)))
 | .lss=>some (.bool (Op.bytesLess x y))
 | .leq=>some (.bool (Op.bytesLess x y||eqB x y))
 | .gtr=>some (.bool (notB (Op.bytesLess x y||eqB x y)))
 | .geq=>some (.bool (notB (Op.bytesLess x y)))
 |_=>none
theorem kStr_ok {op:BinOp} {x y:List UInt8} {s:S} (h:kStr op x y=some s):∃ ans as C,aBinStr op x y ans=some (s,as,C)∧C:=by
 cases op<;>simp only[kStr,notB_eq,eqB_eq,Option.some.injEq,reduceCtorEq] at h
 case add=>
  split at h
  ·rename_i hb;cases h;exact⟨[],[],_,rfl,by have:=Nat.le_of_ble_eq_true hb;omega⟩
  ·cases h
 all_goals subst h;exact⟨[],[],_,rfl,trivial⟩
def kBin (P:Program) (op:BinOp) (t:TypeId) (x y:V):Option S:=
 match x,y with
 | .s (.int k a),.s (.int k' b)=>kInt op k a k' b
 | .s (.str a),.s (.str b)=>kStr op a b
 | .agg l,.agg l'=>
   match P.underlying t with
   |some (.struct fs)=>
    match eqFs P l l' fs.toList with
    |some b=>
     match notB (P.stoodInHeld t)&&notB (P.eqGuardType P.depth t) with
     |true=>match op with| .eql=>some (.bool b)| .neq=>some (.bool (notB b))|_=>none
     |false=>none
    |none=>none
   |_=>none
 | .s (.bool a),.s (.bool b)=>
   match isBoolTy P t with
   |true=>match op with| .eql=>some (.bool (a==b))| .neq=>some (.bool (notB (a==b)))|_=>none
   |false=>none
 | .s (.ptr none),.s (.ptr q)=>
   match isPtrTy P t with
   |true=>match op with| .eql=>some (.bool q.isNone)| .neq=>some (.bool (notB q.isNone))|_=>none
   |false=>none
 | .s (.ptr (some _)),.s (.ptr none)=>
   match isPtrTy P t with
   |true=>match op with| .eql=>some (.bool false)| .neq=>some (.bool true)|_=>none
   |false=>none
 | .s (.slc none _ _),.s (.slc q _ _)=>
   match isSliceTy P t with
   |true=>match op with| .eql=>some (.bool q.isNone)| .neq=>some (.bool (notB q.isNone))|_=>none
   |false=>none
 | .s (.slc (some _) _ _),.s (.slc none _ _)=>
   match isSliceTy P t with
   |true=>match op with| .eql=>some (.bool false)| .neq=>some (.bool true)|_=>none
   |false=>none
 |_,_=>none
theorem kBin_ok {P:Program} {op:BinOp} {t:TypeId} {x y:V} {s:S} (h:kBin P op t x y=some s):∃ ans as C,aBin2 P op t x y ans=some (s,as,C)∧C:=by
 unfold kBin at h;split at h
 ·obtain⟨ans,as,C,h1,h2⟩:=kInt_ok h
  exact⟨ans,as,C,h1,h2⟩
 ·obtain⟨ans,as,C,h1,h2⟩:=kStr_ok h
  exact⟨ans,as,C,h1,h2⟩
 ·split at h
  ·rename_i fs hty
   split at h
   ·rename_i b hb
    split at h
    ·rename_i hg
     simp only[Bool.and_eq_true,notB_eq,Bool.not_eq_true'] at hg;split at h
     ·cases h;exact⟨[],[],((P.stoodInHeld t=false∧P.eqGuardType P.depth t=false)∧True),by simp only[aBin2,aEqAgg,hty,hb];rfl,hg,trivial⟩
     ·cases h;exact⟨[],[],((P.stoodInHeld t=false∧P.eqGuardType P.depth t=false)∧True),by simp only[aBin2,aEqAgg,hty,hb,notB_eq];rfl,hg,trivial⟩
     ·cases h
    ·cases h
   ·cases h
  ·cases h
 all_goals first|(cases h;done)|skip
 all_goals
  split at h
  case h_2=>cases h
  rename_i hty;split at h
  ·cases h;exact⟨[],[],True,by simp only[aBin2,aBin,hty];rfl,trivial⟩
  ·cases h;exact⟨[],[],True,by simp only[aBin2,aBin,hty,notB_eq];rfl,trivial⟩
  ·cases h
def kUn (op:UnOp) (x:V):Option S:=
 match op,x with
 | .not,.s (.bool b)=>some (.bool (notB b))
 | .neg,.s (.int k n)=>some (.int k (wrapF k (0-n)))
 | .xor,.s (.int k n)=>some (.int k (bitV .xor k (if k.signed then-1 else k.max) n))
 |_,_=>none
theorem kUn_ok {op:UnOp} {x:V} {s:S} (h:kUn op x=some s):∃ ans as C,aUn op x ans=some (s,as,C)∧C:=by
 unfold kUn at h;split at h
 ·cases h;exact⟨[],[],True,rfl,trivial⟩
 ·rename_i k n;cases h;exact⟨[.num (wrapF k (0-n))],[],_,rfl,trivial,(wrapF_eq _ _).symm⟩
 ·cases h;exact⟨[],[],_,rfl,trivial,trivial⟩
 ·cases h
def kConv (P:Program) (src dst:TypeId) (x:V):Option S:=
 match x with
 | .s (.int _ n)=>
   match P.underlying src,P.underlying dst with
   |some _,some (.int k)=>some (.int k (wrapF k n))
   |_,_=>none
 | .s (.str l)=>
   match P.underlying src,P.underlying dst with
   |some .string,some .string=>some (.str l)
   |_,_=>none
 |_=>none
theorem kConv_ok {P:Program} {src dst:TypeId} {x:V} {s:S} (h:kConv P src dst x=some s):∃ ans as C,aConvI P src dst x ans=some (s,as,C)∧C:=by
 unfold kConv at h;split at h
 ·rename_i kk n
  split at h
  ·rename_i d k h1 h2;cases h;exact⟨[.num (wrapF k n)],[],(True∧k.wrap n=wrapF k n),by simp only[aConvI,h1,h2];rfl,trivial,(wrapF_eq _ _).symm⟩
  ·cases h
 ·split at h
  ·rename_i h1 h2;cases h;exact⟨[],[],True,by simp only[aConvI,h1,h2],trivial⟩
  ·cases h
 ·cases h
end Ab
end Go.Proofs.YtphdhedhhlfepaaGreatDoor
