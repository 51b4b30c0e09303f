import Derived.Test.YtegjgpldfgjoiaaGreatDoorCnB06
set_option linter.unusedSimpArgs false
set_option linter.unusedVariables false
namespace Go.Proofs.YtegjgpldfgjoiaaGreatDoor
namespace Ab
open Go
set_option maxRecDepth 100000
def bdV:Option V->Nat->Nat->Option Prop
 |none,k,d=>some (k=d)
 |some (.s (.int _ z)),k,_=>some (z=(k:Int))
 |_,_,_=>none
def Bv (P:Program) (n:Nat) (L:Hp) (t:TypeId) (x:V) (lo hi mx:Option V) (k h:Nat) (cs:List S) (as_:List Ans):Option Out:=
 match mx,P.underlying t,x with
 |none,some (.slice e),.s (.sla i g len)=>
  match aF P e,lk L i with
  |some sz,some bl=>
   match bl.gh with
   |some (g',z)=>
    match Nat.beq g' g&&Nat.beq z sz&& !bl.ro with
    |true=>
     match bdV lo k 0,bdV hi h len with
     |some A,some B=>some ⟨⟨[i],.s (.sla n (n+1) (h-k)),dM (some i)++[(n,some {bl with cells:=cs,more:=true,gh:=some (n+1,sz),abs:=none})],n+2⟩,as_,A/\B/\k<=h/\h<=len/\h*sz<=bl.cells.length/\cs=(bl.cells.drop (k*sz)).take ((h-k)*sz)⟩
     |_,_=>none
    |false=>none
   |none=>none
  |_,_=>none
 |_,_,_=>none
theorem gB {P:Program} {φ:Ph} {env:List V} {a:Act} {w:World} {x:Option Operand} {k d top:Nat} {A:Prop} {code:BoundsCode} (hx:∀ y,x=some y->Vr φ (ev env y) (a.eval y)) (h:bdV (x.map (ev env)) k d=some A) (hA:A) (hk:k<=top):
 (match x.map a.eval with|some v=>Instr.sliceBound v top code|none=>pure d).run P w=.ok k w:=by
 cases x with
 |none=>obtain rfl:k=d:=by simp[bdV] at h;exact h.2 hA
        rfl
 |some y=>
  have q:=hx y rfl;simp only[Option.map_some] at h |-
  cases hv:ev env y with
  |s s=>
   rw[hv] at h q
   cases s with
   |int kk z=>
    simp only[bdV,Option.some.injEq] at h;subst h;subst hA;simp only[Vr,Sr] at q;simp only[Instr.sliceBound,q,asIntOf,Sem.run_bind,Sem.run_pure,Result.andThen_ok];rw[if_pos (by omega)];simp
   |_=>simp[bdV] at h
  |_=>rw[hv] at h;simp[bdV] at h
theorem DD {P:Program} {env:List V} {n:Nat} {L:Hp} {t:TypeId} {x:Operand} {lo hi mx:Option Operand} {k h:Nat} {cs:List S} {as_:List Ans} {out:Out} {o:Oper} (ho:o.op=.slice t x lo hi mx)
 (hh:Bv P n L t (ev env x) (lo.map (ev env)) (hi.map (ev env)) (mx.map (ev env)) k h cs as_=some out) (hC:out.C):OutOK P o env n L out:=by
 have hmx:mx=none:=by
  cases mx with
  |none=>rfl
  |some _=>simp[Bv] at hh
 subst hmx;unfold Bv at hh;split at hh
 ·rename_i e i g len _ hty hx
  split at hh
  ·rename_i sz bl hsz hl
   split at hh
   ·rename_i g' z hgh
    split at hh
    ·rename_i hchk
     simp only[Bool.and_eq_true,Bool.not_eq_true'] at hchk;obtain⟨⟨e1,e2⟩,hro⟩:=hchk;have e1:=Nat.eq_of_beq_eq_true e1;have e2:=Nat.eq_of_beq_eq_true e2;subst e1;subst e2;split at hh
     ·rename_i A B hA hB
      cases hh;obtain⟨cA,cB,ckh,chl,ccl,ccs⟩:=hC;refine⟨OpL.moved (bi:=some i) (r:=h-k) (fun φ a w hop hg=>?_) hro,Nat.le_add_right _ _⟩;have g1:=hop x (by simp[ho,Op.operands]);rw[hx] at g1;obtain⟨b,c,hb,hgc,hv,hlc⟩:=g1;obtain⟨b2,hb2,pre,ys,rest,fr,p1,hp,p2,p3,p4,p5⟩:=hg.hr i bl (by rw[aE,if_pos (by simp)];exact hl);rw[hb] at hb2;cases hb2;obtain⟨kk,hkk,hlenk⟩:=p5.1 _ _ hgh;rw[hgc] at hkk;cases hkk;have hyl:=p2.len;have r1:=gB (P:=P) (w:=w) (top:=h) (code:=.sliceB) (fun y hy=>hop y (by subst hy;simp[ho,Op.operands])) hA cA ckh;have r2:=gB (P:=P) (w:=w) (top:=c) (code:=.sliceAcap) (fun y hy=>hop y (by subst hy;simp[ho,Op.operands])) hB cB (by omega)
      have hsb:(Instr.sliceBounds true len c (lo.map a.eval) (hi.map a.eval) none).run P w=.ok (k,h,c) w:=by
       unfold Instr.sliceBounds
       cases hi<;>cases lo<;>simp_all
      refine⟨(b.1,if c=k then b.2 else b.2+k*z),c-k,w,?_,rfl,rfl,rfl,by omega,Nat.le_refl _,fun _ _ _=>rfl,fun _=>⟨i,bl,b,rfl,by rw[aE,if_pos (by simp)];exact hl,hb,rfl,hro⟩,fun φ' hle hk'=>?_⟩
      ·simp only[execOp,ho,hv,Option.map_none,Instr.sliceAt,Instr.slice,Sem.run_bind,run_underlying hty,Result.andThen_ok,hsb,ao hsz,Option.map_some,aA,Sem.run_pure]
       split<;>rfl
      ·by_cases hck:c=k
       ·have h0:h-k=0:=by omega
        simp only[if_pos hck];refine⟨pre,[],ys++rest,fr,p1,hp,?_,(fun e=>by cases e),fun e=>p4 e,⟨fun g z e'=>?_,fun _ e'=>(by cases e')⟩⟩
        ·rw[ccs,h0,Nat.zero_mul];simp[All2]
        ·simp only[Option.some.injEq,Prod.mk.injEq] at e'
         obtain⟨rfl,rfl⟩:=e';exact⟨c-k,hk',by rw[hck,Nat.sub_self,Nat.zero_mul];exact Nat.zero_le _⟩
       ·simp only[if_neg hck]
        have hks:k*z<=ys.length:=by rw[hyl];exact Nat.le_trans (Nat.mul_le_mul_right _ ckh) ccl
        have hd:(h-k)*z<=(ys.drop (k*z)).length:=by rw[List.length_drop,hyl,Nat.sub_mul];omega
        refine⟨pre++ys.take (k*z),(ys.drop (k*z)).take ((h-k)*z),(ys.drop (k*z)).drop ((h-k)*z)++rest,fr,?_,?_,?_,(fun e=>by cases e),fun e o' ho'=>p4 e o' ?_,⟨fun g z' e'=>?_,fun _ e'=>(by cases e')⟩⟩
        ·rw[p1];congr 2
         rw[List.append_assoc,<-List.append_assoc (List.take _ (List.drop _ ys)),List.take_append_drop,<-List.append_assoc (List.take _ ys),List.take_append_drop]
        ·rw[List.length_append,List.length_take,hp,Nat.min_eq_left hks]
        ·rw[ccs];exact ((p2.mono fun _ _=>Sr.mono (bl.ph_le hle)).drop _).take _
        ·simp only[List.length_append,List.length_take,List.length_drop] at ho' |-;omega
        ·simp only[Option.some.injEq,Prod.mk.injEq] at e'
         obtain⟨rfl,rfl⟩:=e';refine⟨c-k,hk',?_⟩;rw[Nat.sub_mul];simp only[List.length_append,List.length_take,List.length_drop] at hlenk |-;omega
     ·cases hh
    ·cases hh
   ·cases hh
  ·cases hh
 ·cases hh
def r_ (P:Program) (n:Nat) (t:TypeId) (x:V) (lo hi mx:Option V) (k h:Nat) (as_:List Ans):Option Out:=
 match mx,P.underlying t,x with
 |none,some (.slice e),.s (.sla i g len)=>
  match aF P e with
  |some sz=>
   match bdV lo k 0,bdV hi h len with
   |some A,some B=>some ⟨⟨[],.w i g sz k (h-k),[],n⟩,as_,A/\B/\k<=h/\h<=len⟩
   |_,_=>none
  |none=>none
 |_,_,_=>none
theorem Bu {P:Program} {env:List V} {n:Nat} {L:Hp} {t:TypeId} {x:Operand} {lo hi mx:Option Operand} {k h:Nat} {as_:List Ans} {out:Out} {o:Oper} (ho:o.op=.slice t x lo hi mx)
 (hh:r_ P n t (ev env x) (lo.map (ev env)) (hi.map (ev env)) (mx.map (ev env)) k h as_=some out) (hC:out.C):OutOK P o env n L out:=by
 have hmx:mx=none:=by
  cases mx with
  |none=>rfl
  |some _=>simp[r_] at hh
 subst hmx;unfold r_ at hh;split at hh
 ·rename_i e i g len _ hty hx
  split at hh
  ·rename_i sz hsz
   split at hh
   ·rename_i A B hA hB
    cases hh;obtain⟨cA,cB,ckh,chl⟩:=hC;refine⟨OpL.light fun φ a w hop hg=>?_,Nat.le_refl _⟩;have g1:=hop x (by simp[ho,Op.operands]);rw[hx] at g1;obtain⟨b,c,hb,hgc,hv,hlc⟩:=g1;have r1:=gB (P:=P) (w:=w) (top:=h) (code:=.sliceB) (fun y hy=>hop y (by subst hy;simp[ho,Op.operands])) hA cA ckh;have r2:=gB (P:=P) (w:=w) (top:=c) (code:=.sliceAcap) (fun y hy=>hop y (by subst hy;simp[ho,Op.operands])) hB cB (by omega)
    have hsb:(Instr.sliceBounds true len c (lo.map a.eval) (hi.map a.eval) none).run P w=.ok (k,h,c) w:=by
     unfold Instr.sliceBounds
     cases hi<;>cases lo<;>simp_all
    refine⟨.slice (some ⟨b.1,if c=k then b.2 else b.2+k*sz,none⟩) (h-k) (c-k),?_,b,c,hb,hgc,rfl,by omega⟩;simp only[execOp,ho,hv,Option.map_none,Instr.sliceAt,Instr.slice,Sem.run_bind,run_underlying hty,Result.andThen_ok,hsb,ao hsz,Option.map_some,aA,Sem.run_pure]
    split<;>rfl
   ·cases hh
  ·cases hh
 ·cases hh
theorem xF {φ:Ph} {M:Hp} {w:World} {n i g sz k m:Nat} {bl:Bl} {cs:List S} {v:Value} (hg:Good φ M w) (hl:lk M i=some bl) (hgh:bl.gh=some (g,sz)) (hro:bl.ro=false) (f0:φ n=none) (f1:φ (n+1)=none)
 (hv:Vr φ (.w i g sz k m) v) (hle:(k+m)*sz<=bl.cells.length) (hcs:cs=(bl.cells.drop (k*sz)).take (m*sz)):
 ∃ φ':Ph,Vr φ' (.s (.sla n (n+1) m)) v/\Good φ' (puts M (dM (some i)++[(n,some {bl with cells:=cs,more:=true,gh:=some (n+1,sz),abs:=none})])) w/\
   Stp φ M w φ' (puts M (dM (some i)++[(n,some {bl with cells:=cs,more:=true,gh:=some (n+1,sz),abs:=none})])) w/\(∀ j,¬(n<=j/\j<n+2)->φ' j=φ j):=by
 obtain⟨b,c,hb,hgc,rfl,hkm⟩:=hv;obtain⟨b2,hb2,pre,ys,rest,fr,p1,hp,p2,p3,p4,p5⟩:=hg.hr i bl hl;rw[hb] at hb2;cases hb2;obtain⟨kk,hkk,hlenk⟩:=p5.1 _ _ hgh;rw[hgc] at hkk;cases hkk;have hyl:=p2.len
 let b':Nat×Nat:=(b.1,if c=k then b.2 else b.2+k*sz)
 let φ':Ph:=⟨fun j=>if j=n then some b' else if j=n+1 then some (c-k,0) else φ j,φ.z⟩
 have hle':φ.le φ':=by
  refine⟨fun j b hb=>?_,fun _ _ h=>h⟩;simp only[φ'];split
  ·rename_i e;subst e;rw[f0] at hb;cases hb
  ·split
   ·rename_i e;subst e;rw[f1] at hb;cases hb
   ·exact hb
 have hn:φ' n=some b':=by simp[φ']
 have hn1:φ' (n+1)=some (c-k,0):=by simp[φ']
 have old:∀ j bj,lk (puts M (dM (some i)++[(n,some {bl with cells:=cs,more:=true,gh:=some (n+1,sz),abs:=none})])) j=some bj->n≠j->lk M j=some bj/\i≠j/\φ' j=φ j:=by
  intro j bj hj hne;rw[fq,if_neg hne] at hj;split at hj
  ·cases hj
  ·rename_i hbi
   refine⟨hj,fun e=>hbi (by rw[e]),?_⟩;obtain⟨b,hb,_⟩:=hg.hr j bj hj;simp only[φ'];rw[if_neg (Ne.symm hne),if_neg];rintro rfl;rw[f1] at hb;cases hb
 have apart:∀ j bj b1,lk M j=some bj->φ j=some b1->i≠j->b1.1≠b.1:=by
  intro j bj b1 hj hb1 hij hbb
  rcases hg.inj j i bj bl b1 b hj hl hb1 hb hbb with rfl|⟨_,e⟩
  ·exact hij rfl
  ·rw[e] at hro;cases hro
 refine⟨φ',⟨b',c-k,hn,hn1,rfl,by omega⟩,⟨fun j bj hj=>?_,fun j j' bj bj' b1 b2 hj hj' hb1 hb2 hbb=>?_,fun x l hx=>?_,hg.gz⟩,⟨rfl,rfl,rfl,Nat.le_refl _,fun _ _ _=>rfl,fun j bj b1 hj hb1 hlt=>?_,fun _ _ h=>h,fun _ _ h=> .inl h⟩,fun j hj=>?_⟩
 rotate_left 2
 ·refine⟨(hg.fz x l hx).1,?_⟩
  rintro⟨j,bj,d,hj,hd,hdx,hroj⟩;by_cases e:n=j
  ·subst e;rw[hn] at hd;cases hd
   exact (hg.fz x l hx).2 ⟨i,bl,b,hl,hb,hdx,hro⟩
  ·obtain⟨hm,_,hφ⟩:=old j bj hj e
   exact (hg.fz x l hx).2 ⟨j,bj,d,hm,by rw[<-hφ];exact hd,hdx,hroj⟩
 rotate_left 2
 ·by_cases e:n=j
  ·subst e
   rw[fq,if_pos rfl] at hj;cases hj;refine⟨b',hn,?_⟩;by_cases hck:c=k
   ·have h0:m=0:=by omega
    refine⟨pre,[],ys++rest,fr,p1,?_,?_,(fun e=>by cases e),fun e=>p4 e,⟨fun g z e'=>?_,fun _ e'=>(by cases e')⟩⟩
    ·simp only[b',if_pos hck];exact hp
    ·show All2 _ cs []
     rw[hcs,h0,Nat.zero_mul];simp[All2]
    ·simp only[Option.some.injEq,Prod.mk.injEq] at e'
     obtain⟨rfl,rfl⟩:=e';exact⟨c-k,hn1,by rw[hck,Nat.sub_self,Nat.zero_mul];exact Nat.zero_le _⟩
   ·have hks:k*sz<=ys.length:=by rw[hyl];rw[Nat.add_mul] at hle;omega
    have hd:m*sz<=(ys.drop (k*sz)).length:=by rw[List.length_drop,hyl];rw[Nat.add_mul] at hle;omega
    refine⟨pre++ys.take (k*sz),(ys.drop (k*sz)).take (m*sz),(ys.drop (k*sz)).drop (m*sz)++rest,fr,?_,?_,?_,(fun e=>by cases e),fun e o' ho'=>p4 e o' ?_,⟨fun g z' e'=>?_,fun _ e'=>(by cases e')⟩⟩
    ·show w.heap[b.1]? =_
     rw[p1];congr 2;rw[List.append_assoc,<-List.append_assoc (List.take _ (List.drop _ ys)),List.take_append_drop,<-List.append_assoc (List.take _ ys),List.take_append_drop]
    ·simp only[b',if_neg hck];rw[List.length_append,List.length_take,hp,Nat.min_eq_left hks]
    ·show All2 _ cs _
     rw[hcs];exact ((p2.mono fun _ _=>Sr.mono (bl.ph_le hle')).drop _).take _
    ·simp only[List.length_append,List.length_take,List.length_drop] at ho' |-;omega
    ·simp only[Option.some.injEq,Prod.mk.injEq] at e'
     obtain⟨rfl,rfl⟩:=e';refine⟨c-k,hn1,?_⟩;rw[Nat.sub_mul];simp only[List.length_append,List.length_take,List.length_drop] at hlenk |-;omega
  ·obtain⟨hm,hbi,hφ⟩:=old j bj hj e
   obtain⟨b1,hb1,hatj⟩:=hg.hr j bj hm;exact⟨b1,by rw[hφ];exact hb1,hatj.mono hle' rfl⟩
 ·by_cases e:n=j<;>by_cases e':n=j'
  ·exact .inl (e▸e')
  ·subst e
   obtain⟨hm,hbi,hφ⟩:=old j' bj' hj' e';rw[hn] at hb1;cases hb1;exact absurd hbb.symm (apart j' bj' b2 hm (by rw[<-hφ];exact hb2) hbi)
  ·subst e'
   obtain⟨hm,hbi,hφ⟩:=old j bj hj e;rw[hn] at hb2;cases hb2;exact absurd hbb (apart j bj b1 hm (by rw[<-hφ];exact hb1) hbi)
  ·obtain⟨hm,_,hφ⟩:=old j bj hj e
   obtain⟨hm',_,hφ'⟩:=old j' bj' hj' e';exact hg.inj j j' bj bj' b1 b2 hm hm' (by rw[<-hφ];exact hb1) (by rw[<-hφ'];exact hb2) hbb
 ·by_cases e:n=j
  ·subst e
   rw[hn] at hb1;cases hb1;exact⟨i,bl,b,hl,hb,rfl,(fun e=>by rw[hro] at e;cases e),.inr hro⟩
  ·obtain⟨hm,_,hφ⟩:=old j bj hj e
   exact⟨j,bj,b1,hm,by rw[<-hφ];exact hb1,rfl,id,.inl rfl⟩
 ·simp only[φ']
  rw[if_neg (by omega),if_neg (by omega)]
def kO (P:Program) (n:Nat) (L:Hp) (t:TypeId) (x v:V) (cs cells:List S) (as_:List Ans):Option Out:=
 match x,v with
 | .s (.ptr (some (j,o))),.w i g sz k m=>
   match lk L i,lk L j,aF P t with
   |some bl,some bj,some 1=>
    match bl.gh with
    |some (g',z)=>
     match Nat.beq g' g&&Nat.beq z sz&& !bl.ro&& !bj.ro&& !Nat.beq i j&& !Nat.beq n j&&aR bj [.sla n (n+1) m]&&bj.kind.isNone with
     |true=>some ⟨⟨[i,j],.undef,dM (some i)++[(n,some {bl with cells:=cs,more:=true,gh:=some (n+1,sz),abs:=none}),(j,some {bj with cells:=cells})],n+2⟩,as_,
      (k+m)*sz<=bl.cells.length/\cs=(bl.cells.drop (k*sz)).take (m*sz)/\o+1<=bj.cells.length/\cells=aU bj.cells o [.sla n (n+1) m]⟩
     |false=>none
    |none=>none
   |_,_,_=>none
 |_,_=>none
theorem qi:∀ (A B:Hp) (L:Hp),puts L (A++B)=puts (puts L A) B
 |[],B,L=>rfl
 |(i,b)::A,B,L=>by simp only[List.cons_append,puts];exact qi A B _
def tkW (n:Nat):V->V
 | .w _ _ _ _ m=> .s (.sla n (n+1) m)
 |v=>v
theorem sR (n:Nat) (v:Value):tkW n (cc v)=cc v:=by
 unfold cc;split<;>rfl
theorem Au (n:Nat) (env:List V) (x:Operand):ev (env.map (tkW n)) x=tkW n (ev env x):=by
 cases x with
 |tmp t=>
  simp only[ev,List.getD_eq_getElem?_getD,List.getElem?_map]
  cases env[t]? <;>rfl
 |const v=>exact (sR n v).symm
 |_=>rfl
theorem tR {P:Program} {env:List V} {n:Nat} {L:Hp} {t:TypeId} {x y:Operand} {cs cells:List S} {as_:List Ans} {out:Out} {o:Oper} (ho:o.op=.store t x y)
 (h:kO P n L t (ev env x) (ev env y) cs cells as_=some out) (hC:out.C):OutOK P o env n L out:=by
 unfold kO at h;split at h
 ·rename_i j off i g sz k m hx hy
  split at h
  ·rename_i bl bj hl hlj ht
   split at h
   ·rename_i g' z hgh
    split at h
    ·rename_i hchk
     cases h;simp only[Bool.and_eq_true,Bool.not_eq_true'] at hchk;obtain⟨⟨⟨⟨⟨⟨⟨e1,e2⟩,hro⟩,hroj⟩,hij⟩,hnj⟩,hfit⟩,hkdj⟩:=hchk;have e1:=Nat.eq_of_beq_eq_true e1;have e2:=Nat.eq_of_beq_eq_true e2;subst e1;subst e2
     have hij:i≠j:=fun e=>by rw[e,Nat.beq_refl] at hij;cases hij
     have hnj:n≠j:=fun e=>by rw[e,Nat.beq_refl] at hnj;cases hnj
     obtain⟨c1,c2,c3,c4⟩:=hC;refine⟨?_,Nat.le_add_right _ _⟩;intro φ a w Q hop hg hf
     have hM:lk (res [i,j] L) i=some bl:=by rw[aE,if_pos (by simp)];exact hl
     have hMj:lk (res [i,j] L) j=some bj:=by rw[aE,if_pos (by simp)];exact hlj
     have gy:=hop y (by simp[ho,Op.operands]);rw[hy] at gy;obtain⟨φ1,hv1,hg1,hs1,hag1⟩:=xF hg hM hgh hro (hf n (Nat.le_refl _) (by show n<n+2;omega)) (hf (n+1) (by omega) (by show n+1<n+2;omega)) gy c1 c2;have hle1:φ.le φ1:=gf (n:=n) (n':=n+2) hf hag1 hs1.zle
     let M1:Hp:=puts (res [i,j] L) (dM (some i)++[(n,some {bl with cells:=cs,more:=true,gh:=some (n+1,z),abs:=none})])
     have hj1:lk M1 j=some bj:=by
      show lk (puts _ _) j=_;rw[fq,if_neg hnj,if_neg (by simpa using hij)];exact hMj
     --the store,with the window as_ taken
     have hst:dL P (n+2) M1 t (ev (env.map (tkW n)) x) (ev (env.map (tkW n)) y) [match bj.sym with|true=> .cells cells|false=> .stc cells]=some ⟨⟨[j],.undef,[(j,some {bj with cells:=cells})],n+2⟩,[],off+1<=bj.cells.length/\cells=aU bj.cells off [.sla n (n+1) m]⟩:=by
      rw[Au,Au,hx,hy];simp only[tkW,dL,hj1,ht,cellsOf,isJ,List.length_cons,List.length_nil,Nat.zero_add,hroj,hfit,hkdj,Nat.beq_refl,Bool.and_self,Bool.not_false]
      cases bj.sym<;>rfl
     have hout:=(gR ho hst ⟨c3,c4⟩).1
     have step:=hout φ1 a w Q (fun z hz=>by
      rw[Au];have g:=hop z hz
      cases hev:ev env z with
      |w i' g' sz' k' m'=>
       have hzy:z=y:=by
        rw[ho] at hz;simp[Op.operands] at hz
        rcases hz with rfl|rfl
        ·rw[hx] at hev;cases hev
        ·rfl
       subst hzy;rw[hy] at hev;cases hev;exact hv1
      |_=>rw[hev] at g;exact g.mono hle1) (hg1.sub fun i' b' hi'=>by
       rw[aE] at hi';split at hi'
       ·exact hi'
       ·cases hi') (fun i' h1 h2=>absurd h2 (by show ¬i'<n+2;omega))
     refine Oper.wp_mono ?_ step;rintro a' w' ⟨φ',x',rfl,hv,hg',st,hag⟩
     have hag':∀ i',φ' i'=φ1 i':=fun i'=>hag i' (by show ¬(n+2<=i'/\i'<n+2);omega)
     have hl2:φ1.le φ':=⟨fun i' b' h'=>by rw[hag'];exact h',st.zle⟩
     obtain⟨g2,s2⟩:=frame (L:=res [j] M1) (M:=M1) (M':=puts M1 [(j,some {bj with cells:=cells})]) hg1 (fun i' b' hi'=>by
      rw[aE] at hi';split at hi'
      ·exact hi'
      ·cases hi') hg' st hl2 (by
      intro i' bl' hi';by_cases hk:i'∈az [(j,some {bj with cells:=cells})]
      ·exact .inl (by rw[fp _ _ M1 i' hk];exact hi')
      ·rw[aN _ _ _ hk] at hi' |-
       by_cases hm:i'∈[j]
       ·exact .inl (by rw[aE,if_pos hm];exact hi')
       ·exact .inr ⟨by rw[aE,if_neg hm],hi'⟩)
     have eM:puts (res [i,j] L) (dM (some i)++[(n,some {bl with cells:=cs,more:=true,gh:=some (n+1,z),abs:=none}),(j,some {bj with cells:=cells})])=puts M1 [(j,some {bj with cells:=cells})]:=by
      show _=puts (puts _ _) _;rw[<-qi];rfl
     refine⟨φ',x',rfl,hv,?_,?_,fun i' hi'=>by rw[hag'];exact hag1 i' hi'⟩
     ·show Good φ' (puts (res [i,j] L) _) w'
      rw[eM];exact g2
     ·show Stp φ (res [i,j] L) w φ' (puts (res [i,j] L) _) w'
      rw[eM];exact hs1.trans s2
    ·cases h
   ·cases h
  ·cases h
 ·cases h
def nF (P:Program) (ts:Array TypeId) (n:Nat) (L:Hp) (d x:V) (as_:List Ans):Option Out:=
 match ts[0]?,ts[1]? with
 |some t,some tx=>
  match P.underlying t,P.underlying tx with
  |some (.slice e),some dx=>
   match jv dx,aF P e,d with
   |true,some sz,.s (.slc none _ _)=>
    match dm L sz 0 x with
    |some (foot,m,_,D)=>some ⟨⟨foot,.s (.slc none 0 (some 0)),[],n⟩,as_,D/\m=0⟩
    |none=>none
   |_,_,_=>none
  |_,_=>none
 |_,_=>none
theorem BH {P:Program} {env:List V} {n:Nat} {L:Hp} {as_:List Ans} {out:Out} {o:Oper} {c:Call} {d x:Operand} (ho:o.op=.call c) (hc:c.callee=.builtin .append) (hargs:c.args.toList=[d,x])
 (h:nF P c.argTypes n L (ev env d) (wkV (ev env x)) as_=some out) (hC:out.C):OutOK P o env n L out:=by
 unfold nF at h;split at h
 ·rename_i t tx h0 h1
  split at h
  ·rename_i e dx ht hx
   split at h
   ·rename_i sz q1 q2 hdx hsz hd
    split at h
    ·rename_i foot m xs D hs
     cases h;obtain⟨hD,rfl⟩:=hC;refine⟨OpL.light fun φ a w hop hg=>?_,Nat.le_refl _⟩
     have opd:d∈o.op.operands:=by rw[ho];simp only[Op.operands,Call.operands,hc];simp[<-Array.mem_toList_iff,hargs]
     have opx:x∈o.op.operands:=by rw[ho];simp only[Op.operands,Call.operands,hc];simp[<-Array.mem_toList_iff,hargs]
     have g1:=hop d opd;rw[hd] at g1;obtain⟨_,_,hv⟩:=g1;obtain⟨r1,vs,r2,r3,r4⟩:=pQ (P:=P) hs hD (Nat.le_refl _) hg (fun j hj=>by rw[aE,if_pos (by simpa using hj)]) (pH (hop x opx))
     have ea:c.args.map a.eval= #[a.eval d,a.eval x]:=by apply Array.ext';simp[hargs]
     refine⟨.slice none 0 0,?_,rfl,rfl,rfl⟩;simp only[execOp,ho,resolve,hc,Sem.run_bind,Sem.run_pure,Result.andThen_ok,invoke,builtin,ea,hv];unfold Builtin.append_;simp only[h0,h1,List.getElem?_toArray,List.getElem?_cons_zero,List.getElem?_cons_succ,Sem.run_bind,Ab.run_underlying ht,Ab.run_underlying hx,Result.andThen_ok,ao hsz,Sem.run_pure]
     cases dx<;>first|cases hdx|skip
     all_goals simp only[Bool.false_eq_true,if_false,Bool.not_false,if_true,r1,r2,Sem.run_bind,Result.andThen_ok,Sem.run_pure,Nat.add_zero,Nat.le_refl]
    ·cases h
   ·cases h
  ·cases h
 ·cases h
def yb (r:Nat->Nat):Option Bl->Option Bl
 |some bl=>some (cE r bl)
 |none=>none
def bH (tbl:List Nat) (new:Nat) (L0:Hp):Hp->Hp
 |[]=>[]
 |(i,c)::t=>
  match Nat.blt i tbl.length with
  |true=>
   match lk L0 i with
   |some b=>match b.ro with|true=>bH tbl new L0 t|false=>(rn tbl new i,yb (rn tbl new) c)::bH tbl new L0 t
   |none=>bH tbl new L0 t
  |false=>(rn tbl new i,yb (rn tbl new) c)::bH tbl new L0 t
def eC (L0 L0':Hp):Bool:=L0.all fun x=>(az L0').elem x.1
def bY:List Nat->Bool
 |[]=>true
 |x::t=> !t.elem x&&bY t
structure callC (P:Program) (f:FuncId) (args:List V) (n:Nat) (L:Hp) (tbl:List Nat) (args0:List V) (L0:Hp) (v0:V) (n0':Nat) (L0':Hp):Prop where
 sc:SC P f args0 tbl.length L0 v0 n0' L0'
 ar:args=args0.map (bv (rn tbl n))
 ft:Fits tbl n n0' L0 (res tbl L)
def kq (P : Program) (f : FuncId) : Bool := match P.funcs[f]? with | some fn => fn.body.isSome && !(fn.name == "runtime.NumGoroutine") | none => false
def nE (P:Program) (f:FuncId) (args:List V) (n:Nat) (L:Hp) (ans:List Ans):Option Out:=
 match ans with
 | .call tbl args0 L0 v0 n0' L0'::as_=>
   match args0.all (okV tbl.length)&&okH tbl.length L0&&eC L0 L0'&&bY (az L0')&&Nat.ble tbl.length n0' with
   |true=>
    iX (bv (rn tbl n) v0) fun v=>frc (bH tbl n L0 L0') [] fun wr=>
     some ⟨⟨tbl,v,wr,n+(n0'-tbl.length)⟩,as_,kq P f=true/\callC P f args n L tbl args0 L0 v0 n0' L0'⟩
   |false=>none
 |_=>none
theorem bM:∀ {L:Hp} {i:Nat} {bl:Bl},lk L i=some bl->(i,some bl)∈L
 |[],_,_,h=>by simp[lk] at h
 |(j,c)::t,i,bl,h=>by
  rw[ak] at h;split at h
  ·rename_i e;subst e;subst h;exact .head _
  ·exact .tail _ (bM h)
theorem jx:∀ {L:Hp} {i:Nat} {c:Option Bl},bY (az L)=true->(i,c)∈L->lk L i=c
 |(j,d)::t,i,c,hn,h=>by
  simp only[az,List.map_cons,bY,Bool.and_eq_true,Bool.not_eq_true'] at hn;rw[ak]
  cases h with
  |head=>simp
  |tail _ h=>
   split
   ·rename_i e;subst e
    have:j∈t.map (·.1):=List.mem_map.2 ⟨(j,c),h,rfl⟩;have h2:(t.map (·.1)).elem j=true:=List.elem_eq_true_of_mem this;rw[h2] at hn;cases hn.1
   ·exact jx hn.2 h
theorem dz:∀ (W L:Hp) (x:Nat),x∈az W->∃ c,(x,c)∈W/\lk (puts L W) x=c
 |(j,d)::t,L,x,h=>by
  simp only[puts];by_cases ht:x∈az t
  ·obtain⟨c,hc,he⟩:=dz t (put L j d) x ht
   exact⟨c,.tail _ hc,he⟩
  ·simp only[az,List.map_cons,List.mem_cons] at h
   have hj:x=j:=h.resolve_right ht;subst hj;exact⟨d,.head _,by rw[aN _ _ _ ht,ax,if_pos rfl]⟩
theorem lA {tbl:List Nat} {new:Nat} {L0:Hp}:∀ {L0':Hp} {x:Nat} {c:Option Bl},(x,c)∈bH tbl new L0 L0'->
 ∃ i d,(i,d)∈L0'/\rn tbl new i=x/\c=d.map (cE (rn tbl new))/\(tbl.length<=i\/∃ b,lk L0 i=some b/\b.ro=false)
 |(j,d)::t,x,c,h=>by
  simp only[bH] at h
  have rest:(x,c)∈bH tbl new L0 t->∃ i d',(i,d')∈(j,d)::t/\rn tbl new i=x/\c=d'.map (cE (rn tbl new))/\(tbl.length<=i\/∃ b,lk L0 i=some b/\b.ro=false):=fun h=>by
   obtain⟨i,d',h1,h2⟩:=lA h;exact⟨i,d',.tail _ h1,h2⟩
  have here:(tbl.length<=j\/∃ b,lk L0 j=some b/\b.ro=false)->(x,c)∈(rn tbl new j,yb (rn tbl new) d)::bH tbl new L0 t->
   ∃ i d',(i,d')∈(j,d)::t/\rn tbl new i=x/\c=d'.map (cE (rn tbl new))/\(tbl.length<=i\/∃ b,lk L0 i=some b/\b.ro=false):=by
   intro hc h
   rcases List.mem_cons.1 h with e|h
   ·simp only[Prod.mk.injEq] at e
    exact⟨j,d,.head _,e.1.symm,by rw[e.2];cases d<;>rfl,hc⟩
   ·exact rest h
  split at h
  ·rename_i hlt
   split at h
   ·rename_i b hb
    split at h
    ·exact rest h
    ·rename_i hro;exact here (.inr ⟨b,hb,hro⟩) h
   ·exact rest h
  ·rename_i hge
   refine here (.inl ?_) h
   rcases Nat.lt_or_ge j tbl.length with hl|hl
   ·rw[al.2 hl] at hge;cases hge
   ·exact hl
theorem ma {tbl:List Nat} {new:Nat} {L0:Hp} {i:Nat} {b:Bl} (hb:lk L0 i=some b) (hro:b.ro=false) (hi:i<tbl.length):∀ {L0':Hp},i∈az L0'->rn tbl new i∈az (bH tbl new L0 L0')
 |(j,d)::t,h=>by
  simp only[az,List.map_cons,List.mem_cons] at h;simp only[bH]
  rcases h with rfl|h
  ·rw[al.2 hi]
   simp only[hb,hro,az,List.map_cons,List.mem_cons,true_or]
  ·have ih:=ma (new:=new) hb hro hi (L0':=t) h
   split
   ·split
    ·split
     ·exact ih
     ·simp only[az,List.map_cons,List.mem_cons];exact .inr ih
    ·exact ih
   ·simp only[az,List.map_cons,List.mem_cons];exact .inr ih
theorem dT {tbl:List Nat} {new:Nat} {L0 L0' M:Hp} (hs:eC L0 L0'=true) (hn:bY (az L0')=true):sv tbl new L0 L0' M (puts M (bH tbl new L0 L0')):=by
 intro x bl hx;by_cases hk:x∈az (bH tbl new L0 L0')
 ·left
  obtain⟨c,hc,he⟩:=dz _ M x hk;rw[he] at hx;subst hx;obtain⟨i,d,h1,h2,h3,h4⟩:=lA hc
  cases d with
  |none=>simp at h3
  |some bl0=>exact⟨i,bl0,h2,jx hn h1,by simpa using h3,h4⟩
 ·right
  rw[aN _ _ _ hk] at hx;refine⟨hx,fun i hi e b hb=>?_⟩
  cases hro:b.ro with
  |true=>rfl
  |false=>
   exfalso;have h1:=List.all_eq_true.1 hs _ (bM hb)
   have h2:i∈az L0':=by simpa using h1
   have:=ma (tbl:=tbl) (new:=new) hb hro hi h2;rw[dq hi,e] at this;exact hk this
theorem sg {P:Program} {f:FuncId} {env:List V} {n:Nat} {L:Hp} {ans:List Ans} {out:Out} {o:Oper} {c:Call} (ho:o.op=.call c) (hc:c.callee=.value (.func f))
 (h:nE P f (c.args.toList.map (ev env)) n L ans=some out) (hC:out.C):OutOK P o env n L out:=by
 unfold nE at h;split at h
 ·rename_i tbl args0 L0 v0 n0' L0' as_
  split at h
  ·rename_i hchk
   rw[dd,aQ] at h;cases h;simp only[Bool.and_eq_true] at hchk;obtain⟨⟨⟨⟨k1,k2⟩,k3⟩,k4⟩,k5⟩:=hchk;obtain⟨hf,hsc,hargs,ft⟩:=hC;unfold kq at hf;split at hf
   ·rename_i fn hfn
    simp only[Bool.and_eq_true,Bool.not_eq_true'] at hf;exact⟨hsc.op k1 k2 ho hc hfn hf.1 hf.2 hargs ft (dT k3 k4),Nat.le_add_right _ _⟩
   ·cases hf
  ·cases h
 ·cases h
def XT (P:Program) (f:FuncId) (args:List V) (v:V):Prop:=∀ (φ:Ph) (xs:List Value) (w:World),All2 (Vr φ) args xs->∃ y,(callFunc f xs.toArray).run P w=.ok (.value y) w/\Vr φ v y
theorem XT.op {P:Program} {f:FuncId} {v:V} {o:Oper} {c:Call} {env:List V} {n:Nat} {L:Hp} (ho:o.op=.call c) (hc:c.callee=.value (.func f)) (h:XT P f (c.args.toList.map (ev env)) v):OpL P o env n L v n L:=by
 refine OpL.light fun φ a w hop _=>?_
 have hxs:All2 (Vr φ) (c.args.toList.map (ev env)) (c.args.toList.map a.eval):=by
  have key:∀ l:List Operand,(∀ x∈l,Vr φ (ev env x) (a.eval x))->All2 (Vr φ) (l.map (ev env)) (l.map a.eval):=by
   intro l
   induction l with
   |nil=>intro _;trivial
   |cons y t ih=>intro hl;exact⟨hl y (.head _),ih fun x hx=>hl x (.tail _ hx)⟩
  refine key _ fun x hm=>hop x ?_
  rw[ho];simp only[Op.operands,Call.operands,hc];simp at hm |-;exact .inr hm
 obtain⟨y,hy,hv⟩:=h φ _ w hxs;refine⟨y,?_,hv⟩
 have e:(c.args.toList.map a.eval).toArray=c.args.map a.eval:=by apply Array.ext';simp
 rw[e] at hy;simp only[execOp,ho,resolve,hc,Deferred.ofValue,Act.eval,invoke,Sem.run_bind,Sem.run_pure,Result.andThen_ok]
 simpa using hy
def mn (n:Nat) (x:V) (ans:List Ans):Option Out:=match x with| .s (.ptr (some p))=>lt n (.s (.ptr (some p))) ans True|_=>none
theorem DE {P:Program} {env:List V} {n:Nat} {L:Hp} {x:Operand} {ans:List Ans} {out:Out} {o:Oper} (ho:o.op=.nilCheck x) (h:mn n (ev env x) ans=some out):OutOK P o env n L out:=by
 unfold mn at h;split at h
 ·rename_i p hx
  refine ez h fun φ a w hop=>?_
  have g:=hop x (by simp[ho,Op.operands]);rw[hx] at g;refine⟨a.eval x,?_,g⟩;obtain⟨i,q⟩:=p;obtain⟨b,_,hv⟩:=g;simp only[execOp,ho,hv,Sem.run_pure]
 ·cases h
def ca (P:Program) (b:Builtin) (ts:Array TypeId) (n:Nat) (L:Hp) (args:List V) (ans:List Ans):Option Out:=
 match b,args with
 | .len,[x]=>match ts[0]? with|some t=>(match xg P t x with|some s=>f_ n (some (s,ans,True))|none=>none)|none=>none
 | .min,[x,y]=>f_ n (dg false x y ans)
 | .max,[x,y]=>f_ n (dg true x y ans)
 | .copy,[x,y]=>sf P ts n L (wkV x) (wkV y) ans
 | .append,[x,y]=>match ans with| .keep::as_=>nF P ts n L x (wkV y) as_| .eager::as_=>fE P ts n L false x (wkV y) as_|ans=>fE P ts n L true x (wkV y) ans
 |_,_=>none
def aop (P:Program) (o:Oper) (env:List V) (n:Nat) (L:Hp) (ans:List Ans):Option Out:=
 match o.op with
 | .move x=>lt n (ev env x) ans True
 | .assign x=>lt n (ev env x) ans True
 | .pick c a b=>
   match ev env c with
   | .s (.bool t)=>match t with|true=>lt n (ev env a) ans True|false=>lt n (ev env b) ans True
   |_=>none
 | .binOp op t x y _=>f_ n (jg P op t (wkV (ev env x)) (wkV (ev env y)) ans)
 | .unOp op _ x=>f_ n (aUn op (ev env x) ans)
 | .convert src dst x=>
   match P.underlying src,P.underlying dst with
   |some (.slice _),some .string=>ir P n L src dst (wkV (ev env x)) ans
   |some .string,some (.slice _)=>ek P n src dst (ev env x) ans
   |_,_=>f_ n (iv P src dst (ev env x) ans)
 | .makeSlice t l c=>sb P n t (ev env l) (ev env c) ans
 | .slice t x lo hi mx=>
   match ans with
   | .win k h cs::as_=>Bv P n L t (ev env x) (lo.map (ev env)) (hi.map (ev env)) (mx.map (ev env)) k h cs as_
   | .wlz k h::as_=>r_ P n t (ev env x) (lo.map (ev env)) (hi.map (ev env)) (mx.map (ev env)) k h as_
   |ans=>gE P n t (wkV (ev env x)) (lo.map fun y=>wkV (ev env y)) (hi.map fun y=>wkV (ev env y)) (mx.map fun y=>wkV (ev env y)) ans
 | .build t parts=>ep P n t (iI env parts) ans
 | .buildSlice t len parts=>cb P n t len (iI env parts) ans
 | .field t x f=>cU P n t (ev env x) f ans
 | .extract x i=>match tT (ev env x) i with|some v=>lt n v ans True|none=>none
 | .load t a=>vC P n L t (ev env a) ans
 | .store t a x=>
   match ans with
   | .stw cs cells::as_=>kO P n L t (ev env a) (ev env x) cs cells as_
   |ans=>dL P n L t (ev env a) (ev env x) ans
 | .alloc t=>iw P n t ans
 | .box t x=>tU n t (ev env x) ans
 | .fieldAddr s x f=>eo P n s (ev env x) f ans
 | .indexAddr t x ix=>cy P n t (wkV (ev env x)) (wkV (ev env ix)) ans
 | .index t x ix=>mp P n t (ev env x) (ev env ix) ans
 | .nilCheck x=>mn n (ev env x) ans
 | .call c=>
   match c.callee with
   | .value (.func f)=>
     match ans with
     | .ext args0 v::as_=>iX v fun v=>some ⟨⟨[],v,[],n⟩,as_,c.args.toList.map (ev env)=args0/\XT P f args0 v⟩
     | .callw tbl args0 L0 v0 n0' L0'::as_=>nE P f (c.args.toList.map fun y=>wkV (ev env y)) n L (.call tbl args0 L0 v0 n0' L0'::as_)
     |ans=>nE P f (c.args.toList.map (ev env)) n L ans
   | .builtin b=>ca P b c.argTypes n L (c.args.toList.map (ev env)) ans
   |_=>none
 |_=>none
theorem si {P:Program} {b:Builtin} {env:List V} {n:Nat} {L:Hp} {ans:List Ans} {out:Out} {o:Oper} {c:Call} (ho:o.op=.call c) (hc:c.callee=.builtin b)
 (h:ca P b c.argTypes n L (c.args.toList.map (ev env)) ans=some out) (hC:out.C):OutOK P o env n L out:=by
 have ops:∀ x∈c.args.toList,x∈o.op.operands:=fun x hx=>by
  rw[ho];simp only[Op.operands,Call.operands,hc];simpa using hx
 unfold ca at h;split at h
 ·rename_i x hargs
  obtain⟨x0,hx0,rfl⟩:∃ x0,c.args.toList=[x0]/\ev env x0=x:=by
   match hl:c.args.toList,hargs with
   |[x0],hargs=>exact⟨x0,rfl,by simpa [hl] using hargs⟩
  split at h
  ·rename_i t ht
   split at h
   ·rename_i s hs
    refine gJ h hC fun s' as_ C e _ φ a w hop=>?_
    cases e;have g:=hop x0 (ops x0 (by rw[hx0];exact .head _));obtain⟨y,hy,hr⟩:=DI (P:=P) hs g (ty:=o.type) ht w
    have ea:c.args.map a.eval= #[a.eval x0]:=by apply Array.ext';simp[hx0]
    exact⟨y,by simp only[execOp,ho,resolve,hc,Sem.run_bind,Sem.run_pure,Result.andThen_ok,invoke,builtin,ea,hy],hr⟩
   ·cases h
  ·cases h
 ·rename_i x y hargs
  obtain⟨x0,y0,hx0,rfl,rfl⟩:∃ x0 y0,c.args.toList=[x0,y0]/\ev env x0=x/\ev env y0=y:=by
   match hl:c.args.toList,hargs with
   |[x0,y0],hargs=>exact⟨x0,y0,rfl,by simpa [hl] using hargs⟩
  refine gJ h hC fun s' as_ C e hC φ a w hop=>?_
  have g1:=hop x0 (ops x0 (by rw[hx0];exact .head _));have g2:=hop y0 (ops y0 (by rw[hx0];exact .tail _ (.head _)));obtain⟨v,hv,hr⟩:=DF (P:=P) e hC g1 g2 (ts:=c.argTypes) (ty:=o.type) w
  have ea:c.args.map a.eval= #[a.eval x0,a.eval y0]:=by apply Array.ext';simp[hx0]
  exact⟨v,by simp only[execOp,ho,resolve,hc,Sem.run_bind,Sem.run_pure,Result.andThen_ok,invoke,builtin,ea,hv],hr⟩
 ·rename_i x y hargs
  obtain⟨x0,y0,hx0,rfl,rfl⟩:∃ x0 y0,c.args.toList=[x0,y0]/\ev env x0=x/\ev env y0=y:=by
   match hl:c.args.toList,hargs with
   |[x0,y0],hargs=>exact⟨x0,y0,rfl,by simpa [hl] using hargs⟩
  refine gJ h hC fun s' as_ C e hC φ a w hop=>?_
  have g1:=hop x0 (ops x0 (by rw[hx0];exact .head _));have g2:=hop y0 (ops y0 (by rw[hx0];exact .tail _ (.head _)));obtain⟨v,hv,hr⟩:=DH (P:=P) e hC g1 g2 (ts:=c.argTypes) (ty:=o.type) w
  have ea:c.args.map a.eval= #[a.eval x0,a.eval y0]:=by apply Array.ext';simp[hx0]
  exact⟨v,by simp only[execOp,ho,resolve,hc,Sem.run_bind,Sem.run_pure,Result.andThen_ok,invoke,builtin,ea,hv],hr⟩
 ·rename_i x y hargs
  obtain⟨x0,y0,hx0,rfl,rfl⟩:∃ x0 y0,c.args.toList=[x0,y0]/\ev env x0=x/\ev env y0=y:=by
   match hl:c.args.toList,hargs with
   |[x0,y0],hargs=>exact⟨x0,y0,rfl,by simpa [hl] using hargs⟩
  rw[<-j8,<-j8] at h;exact OutOK.wk (BB ho hc hx0 h hC)
 ·rename_i x y hargs
  obtain⟨x0,y0,hx0,rfl,rfl⟩:∃ x0 y0,c.args.toList=[x0,y0]/\ev env x0=x/\ev env y0=y:=by
   match hl:c.args.toList,hargs with
   |[x0,y0],hargs=>exact⟨x0,y0,rfl,by simpa [hl] using hargs⟩
  split at h
  ·exact BH ho hc hx0 h hC
  ·exact mr ho hc hx0 h hC
  ·exact mr ho hc hx0 h hC
 ·cases h
theorem dK {P:Program} {o:Oper} {env:List V} {n:Nat} {L:Hp} {ans:List Ans} {out:Out} (h:aop P o env n L ans=some out) (hC:out.C):OutOK P o env n L out:=by
 unfold aop at h;split at h
 ·rename_i x ho
  exact ez h fun φ a w hop=>⟨_,by simp only[execOp,ho,Sem.run_pure],hop x (by simp[ho,Op.operands])⟩
 ·rename_i x ho
  exact ez h fun φ a w hop=>⟨_,by simp only[execOp,ho,Sem.run_pure],hop x (by simp[ho,Op.operands])⟩
 ·rename_i c x y ho
  split at h
  ·rename_i t hc
   split at h
   ·exact ez h fun φ a w hop=>by
     have g:=hop c (by simp[ho,Op.operands]);rw[hc] at g;simp only[Vr,Sr] at g;exact⟨_,by simp only[execOp,ho,g,asBool,Sem.run_bind,Sem.run_pure,Result.andThen_ok,if_true],hop x (by simp[ho,Op.operands])⟩
   ·exact ez h fun φ a w hop=>by
     have g:=hop c (by simp[ho,Op.operands]);rw[hc] at g;simp only[Vr,Sr] at g;exact⟨_,by simp only[execOp,ho,g,asBool,Sem.run_bind,Sem.run_pure,Result.andThen_ok,Bool.false_eq_true,if_false],hop y (by simp[ho,Op.operands])⟩
  ·cases h
 ·rename_i op t x y ty ho
  refine gJ h hC fun s as_ C e hC φ a w hop=>?_
  obtain⟨v,hv,hr⟩:=BF (P:=P) (ox:=x) (oy:=y) e hC (pH (hop x (by simp[ho,Op.operands]))) (pH (hop y (by simp[ho,Op.operands]))) w;exact⟨v,by simp only[execOp,ho];rw[Sem.run_bind,hv];rfl,hr⟩
 ·rename_i op t x ho
  refine gJ h hC fun s as_ C e hC φ a w hop=>?_
  obtain⟨v,hv,hr⟩:=F5 (P:=P) e hC (hop x (by simp[ho,Op.operands])) w;exact⟨v,by simp only[execOp,ho];rw[Sem.run_bind,hv];rfl,hr⟩
 ·rename_i src dst x ho
  split at h
  ·rw[<-j8] at h;exact OutOK.wk (xd ho h hC)
  ·exact sa ho h
  ·refine gJ h hC fun s as_ C e hC φ a w hop=>?_
   obtain⟨v,hv,hr⟩:=xm (P:=P) e hC (hop x (by simp[ho,Op.operands])) w;exact⟨v,by simp only[execOp,ho];rw[Sem.run_bind,hv];rfl,hr⟩
 ·rename_i t l c ho;exact Bw ho h hC
 ·rename_i t x lo hi mx ho
  split at h
  ·exact DD ho h hC
  ·exact Bu ho h hC
  ·simp only[<-j8] at h
   exact OutOK.wk (xe ho h hC)
 ·rename_i t parts ho;exact xn ho h
 ·rename_i t len parts ho;exact mq ho h
 ·rename_i t x f ho;exact tS ho h
 ·rename_i x i ho
  split at h
  ·rename_i v hv
   exact ez h fun φ a w hop=>by
    obtain⟨y,hy,hr⟩:=DJ (P:=P) hv (hop x (by simp[ho,Op.operands])) w;exact⟨y,by simp only[execOp,ho];rw[Sem.run_bind,hy];rfl,hr⟩
  ·cases h
 ·rename_i t a ho;exact Bx ho h hC
 ·rename_i t a x ho
  split at h
  ·exact tR ho h hC
  ·exact gR ho h hC
 ·rename_i t ho;exact xo ho h
 ·rename_i t x ho;exact DK ho h
 ·rename_i s x f ho;exact xi ho h
 ·rename_i t x ix ho
  rw[<-j8,<-j8] at h;exact OutOK.wk (mL ho h hC)
 ·rename_i t x ix ho;exact xh ho h hC
 ·rename_i x ho;exact DE ho h
 ·rename_i c ho
  split at h
  ·rename_i f hc
   split at h
   ·rw[dd] at h
    cases h;obtain⟨e,hx⟩:=hC;exact⟨XT.op ho hc (e▸hx),Nat.le_refl _⟩
   ·simp only[<-j8] at h
    exact OutOK.wk (sg ho hc h hC)
   ·exact sg ho hc h hC
  ·rename_i b hc;exact si ho hc h hC
  ·cases h
 ·cases h
abbrev Gs:=List (Nat×Option Bool)
def uV:Gs->Nat->Option Bool
 |[],_=>none
 |(j,c)::t,i=>match Nat.beq j i with|true=>c|false=>uV t i
def gBad (gs:Gs) (t:Nat):Prop:=uV gs t=some false
def ndL (gs:Gs):List Operand->List Bool
 |[]=>[]
 | .tmp t::r=>match uV gs t with|some c=>c::ndL gs r|none=>ndL gs r
 |_::r=>ndL gs r
def mkC {β:Type}:List Bool->Prop->(Prop->β)->β
 |[],C,k=>k C
 |c::t,C,k=>mkC t (c=true/\C) k
def opG (gs:Gs):Operand->Prop
 | .tmp t=> ¬gBad gs t
 |_=>True
def LR (envS:List V) (gs:Gs) (envA:List V):Prop:=envA.length=envS.length/\∀ t,envA.getD t .undef=match uV gs t with|some false=> .undef|_=>envS.getD t .undef
theorem LR.ev {envS:List V} {gs:Gs} {envA:List V} (h:LR envS gs envA) {x:Operand} (hx:opG gs x):ev envA x=ev envS x:=by
 cases x with
 |tmp t=>
  have:=h.2 t;split at this
  ·rename_i e;exact absurd e hx
  ·exact this
 |_=>rfl
def lD (acc:List Nat) (o:Oper):Nat:=o.after.toList.foldl (fun s e=>match Region.binds .any e with|true=>s|||(2^e.on|||acc.getD e.on 0)|false=>s) 0
def gc:List Oper->List Nat->List Nat
 |[],acc=>acc
 |o::t,acc=>gc t (acc++[lD acc o])
def gw (a b:List Nat):Bool:=a.all fun x=> !b.elem x
def l8 (ops:Array Oper) (x y:Row):Bool:=
 !(gw x.1.dst.toList (y.1.dst.toList++looks ops y.1)&&gw y.1.dst.toList (looks ops x.1)&&gw (az x.2.wr) (az y.2.wr++y.2.foot)&&gw (az y.2.wr) x.2.foot)
def h_ (ops:Array Oper) (rows:List Row):Bool:=
 let ms:=gc ops.toList []
 (ops.toList.zipIdx.all fun (o,i)=>o.after.toList.all fun e=> !Region.binds .any e||Nat.blt e.on i)&&
 rows.zipIdx.all fun (y,j)=>rows.zipIdx.all fun (x,i)=> !Nat.blt i j|| !l8 ops x y||(ms.getD j 0).testBit i
theorem sX {ops:Array Oper} {D:Nat->Bool} {acc:List Nat} {o:Oper} {i:Nat} (hacc:∀ k,k<acc.length->∀ i,(acc.getD k 0).testBit i=true->D k=true->D i=true) (hlen:∀ e∈o.after.toList,Region.binds .any e=true->e.on<acc.length)
 (hD:∀ e∈o.after.toList,Region.binds .any e=true->D e.on=true) (h:(lD acc o).testBit i=true):D i=true:=by
 have key:∀ (l:List Edge) (s:Nat),(∀ e∈l,e∈o.after.toList)->(s.testBit i=true->D i=true)->
  ((l.foldl (fun s e=>match Region.binds .any e with|true=>s|||(2^e.on|||acc.getD e.on 0)|false=>s) s).testBit i=true->D i=true):=by
  intro l
  induction l with
  |nil=>intro s _ hs;exact hs
  |cons e t ih=>
   intro s hm hs;simp only[List.foldl_cons];refine ih _ (fun e' he'=>hm e' (.tail _ he')) ?_
   cases hb:Region.binds .any e with
   |false=>exact hs
   |true=>
    intro hbit;simp only[Nat.testBit_or,Bool.or_eq_true,Nat.testBit_two_pow,decide_eq_true_eq] at hbit
    rcases hbit with h|rfl|h
    ·exact hs h
    ·exact hD e (hm e (.head _)) hb
    ·exact hacc _ (hlen e (hm e (.head _)) hb) i h (hD e (hm e (.head _)) hb)
 exact key _ 0 (fun _ h=>h) (by simp) h
theorem lC {ops:Array Oper} {D:Nat->Bool} (hc:gF ops D) (down:∀ (i:Nat) o,ops[i]? =some o->∀ e∈o.after.toList,Region.binds .any e=true->e.on<i):
 ∀ (l:List Oper) (acc:List Nat),(∀ j,ops[acc.length+j]? =l[j]?)->(∀ k,k<acc.length->∀ i,(acc.getD k 0).testBit i=true->D k=true->D i=true)->
   ∀ k,k<(gc l acc).length->∀ i,((gc l acc).getD k 0).testBit i=true->D k=true->D i=true
 |[],acc,_,h=>h
 |o::t,acc,ho,h=>by
  simp only[gc]
  have hmem:ops[acc.length]? =some o:=by simpa using ho 0
  refine lC hc down t (acc++[lD acc o]) (fun j=>by
   have:=ho (j+1);simp only[List.length_append,List.length_cons,List.length_nil,Nat.zero_add]
   rw[show acc.length+1+j=acc.length+(j+1) by omega,this];simp) ?_
  intro k hk i hbit hDk;simp only[List.length_append,List.length_cons,List.length_nil,Nat.zero_add] at hk
  rcases Nat.lt_or_ge k acc.length with hlt|hge
  ·refine h k hlt i ?_ hDk
   rwa [List.getD_eq_getElem?_getD,List.getElem?_append_left hlt,<-List.getD_eq_getElem?_getD] at hbit
  ·obtain rfl:k=acc.length:=by omega
   have e:(acc++[lD acc o]).getD acc.length 0=lD acc o:=by simp[List.getD_eq_getElem?_getD]
   rw[e] at hbit;exact sX (ops:=ops) h (fun e he hb=>down _ _ hmem e he hb) (fun e he hb=>hc _ _ hmem hDk e he hb) hbit
theorem fo:∀ (l:List Oper) (acc:List Nat),(gc l acc).length=acc.length+l.length
 |[],acc=>by simp[gc]
 |o::t,acc=>by simp only[gc];rw[fo t];simp;omega
theorem cR {a b:List Nat} {x:Nat} (h:gw a b=true) (ha:x∈a) (hb:x∈b):False:=by
 have:=List.all_eq_true.1 h x ha;simp[hb] at this
theorem Cp {ops:Array Oper} {rows:List Row} (hops:rows.map (·.1)=ops.toList) (h:h_ ops rows=true):RegOK ops rows:=by
 unfold h_ at h;simp only[Bool.and_eq_true] at h;obtain⟨h1,h2⟩:=h
 have down:∀ (i:Nat) o,ops[i]? =some o->∀ e∈o.after.toList,Region.binds .any e=true->e.on<i:=by
  intro i o hi e he hb;have:=List.all_eq_true.1 h1 (o,i) (List.mem_zipIdx_iff_getElem?.2 (by simpa using hi));have:=List.all_eq_true.1 this e he;simp only[hb,Bool.not_true,Bool.false_or] at this;exact al.1 this
 have hlen:rows.length=ops.size:=by rw[<-Array.length_toList,<-hops,List.length_map]
 have bef:∀ (i j:Nat) (x y:Row),i<j->rows[i]? =some x->rows[j]? =some y->l8 ops x y=true->Bef ops i j:=by
  intro i j x y hij hi hj hcf D hc hD;have g1:=List.all_eq_true.1 h2 (y,j) (List.mem_zipIdx_iff_getElem?.2 hj);have g2:=List.all_eq_true.1 g1 (x,i) (List.mem_zipIdx_iff_getElem?.2 hi);simp only[al.2 hij,hcf,Bool.not_true,Bool.false_or] at g2
  have hjl:j<rows.length:=by
   rcases Nat.lt_or_ge j rows.length with h|h
   ·exact h
   ·simp[List.getElem?_eq_none h] at hj
  exact lC hc down ops.toList [] (fun j=>by simp) (fun k hk=>by simp at hk) j (by rw[fo];simp;omega) i g2 hD
 refine⟨hops,down,?_,?_⟩
 ·intro i j oi ri oj rj t hij hi hj hcase
  refine bef i j _ _ hij hi hj ?_;unfold l8
  cases hcf:(gw oi.dst.toList (oj.dst.toList++looks ops oj)&&gw oj.dst.toList (looks ops oi)&&gw (az ri.wr) (az rj.wr++rj.foot)&&gw (az rj.wr) ri.foot) with
  |false=>rfl
  |true=>
   exfalso;simp only[Bool.and_eq_true] at hcf;obtain⟨⟨⟨c1,c2⟩,c3⟩,c4⟩:=hcf
   rcases hcase with ⟨e1,e2|e2⟩|⟨e1,e2⟩
   ·exact cR c1 (x:=t) (by simp[e1]) (by simp[e2])
   ·exact cR c1 (x:=t) (by simp[e1]) (by simp[e2])
   ·exact cR c2 (x:=t) (by simp[e1]) e2
 ·intro i j oi ri oj rj t hij hi hj hcase
  refine bef i j _ _ hij hi hj ?_;unfold l8
  cases hcf:(gw oi.dst.toList (oj.dst.toList++looks ops oj)&&gw oj.dst.toList (looks ops oi)&&gw (az ri.wr) (az rj.wr++rj.foot)&&gw (az rj.wr) ri.foot) with
  |false=>rfl
  |true=>
   exfalso;simp only[Bool.and_eq_true] at hcf;obtain⟨⟨⟨c1,c2⟩,c3⟩,c4⟩:=hcf
   rcases hcase with ⟨e1,e2|e2⟩|⟨e1,e2⟩
   ·exact cR c3 e1 (by simp[e2])
   ·exact cR c3 e1 (by simp[e2])
   ·exact cR c4 e1 e2
def One (x:Exit) (e:List V) (m:Nat) (M:Hp):Post:=fun x' e' m' M'=>x'=x/\e'=e/\m'=m/\M'=M
def To (b n:Nat) (env:List V) (L:Hp) (env':List V) (L':Hp):Prop:=
 ∀ (φ₀ φ:Ph) (L₀:Hp) (w₀ w:World) (a:Act),EnvR φ env a->Good φ L w->Stp φ₀ L₀ w₀ φ L w->
   ∃ φ':Ph,EnvR φ' env' a/\Good φ' L' w/\(∀ i,n<=i->φ' i=none)/\Stp φ₀ L₀ w₀ φ' L' w/\(∀ i,i<b->φ' i=φ i)
end Ab
end Go.Proofs.YtegjgpldfgjoiaaGreatDoor
