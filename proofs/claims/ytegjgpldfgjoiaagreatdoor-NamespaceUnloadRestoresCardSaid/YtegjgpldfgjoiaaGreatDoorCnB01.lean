import Derived.Test.YtegjgpldfgjoiaaGreatDoorCnB00
import Derived.LoopN
set_option linter.unusedSimpArgs false
set_option linter.unusedVariables false
namespace Go.Proofs.YtegjgpldfgjoiaaGreatDoor
namespace Ab
open Go
abbrev Row:=Oper×R
def eD (D:Nat->Bool):Nat->List Row->List V->List V
 |_,[],e=>e
 |k,(o,r)::t,e=>eD D (k+1) t (match D k with|true=>aB e o.dst r.v|false=>e)
def hD (D:Nat->Bool):Nat->List Row->Hp->Hp
 |_,[],L=>L
 |k,(_,r)::t,L=>hD D (k+1) t (match D k with|true=>puts L r.wr|false=>L)
def nAt:List Row->Nat->Nat->Nat
 |_,n,0=>n
 |[],n,_+1=>n
 |(_,r)::t,_,i+1=>nAt t r.n' i
def RunOK (P:Program) (ops:Array Oper):List Row->List V->Nat->Hp->Prop
 |[],_,_,_=>True
 |(o,r)::t,env,n,L=>StepOK P ops o r env n L/\RunOK P ops t (aB env o.dst r.v) r.n' (puts L r.wr)
theorem jI (D:Nat->Bool):∀ (rows:List Row) (k:Nat) (e:List V),(eD D k rows e).length=e.length
 |[],_,_=>rfl
 |(o,r)::t,k,e=>by
  simp only[eD];rw[jI D t]
  cases D k<;>simp[fS]
theorem i_ {D:Nat->Bool}:∀ (rows:List Row) (k:Nat) (e:List V),(∀ j,k<=j->D j=false)->eD D k rows e=e
 |[],_,_,_=>rfl
 |(o,r)::t,k,e,h=>by
  simp only[eD,h k (Nat.le_refl _)]
  exact i_ t (k+1) e fun j hj=>h j (by omega)
theorem gN {D:Nat->Bool}:∀ (rows:List Row) (k:Nat) (L:Hp),(∀ j,k<=j->D j=false)->hD D k rows L=L
 |[],_,_,_=>rfl
 |(o,r)::t,k,L,h=>by
  simp only[hD,h k (Nat.le_refl _)]
  exact gN t (k+1) L fun j hj=>h j (by omega)
theorem eI {D D':Nat->Bool} {t:Nat}:∀ (rows:List Row) (k:Nat) (e e':List V),e[t]? =e'[t]? ->e.length=e'.length->
 (∀ (i:Nat) o r,rows[i]? =some (o,r)->o.dst=some t->D (k+i)=D' (k+i))->(eD D k rows e)[t]? =(eD D' k rows e')[t]?
 |[],_,_,_,h,_,_=>h
 |(o,r)::rows,k,e,e',h,hl,hd=>by
  simp only[eD]
  refine eI rows (k+1) _ _ ?_ ?_ fun i o' r' hi hdst=>by
   have:=hd (i+1) o' r' (by simpa using hi) hdst
   rwa [show k+1+i=k+(i+1) by omega]
  ·by_cases hdst:o.dst=some t
   ·have:=hd 0 o r rfl hdst
    simp only[Nat.add_zero] at this;rw[this]
    cases D' k<;>simp[fT,hdst,hl,h]
   ·cases D k<;>cases D' k<;>simp[fT,hdst,h]
  ·cases D k<;>cases D' k<;>simp[fS,hl]
theorem iM {D D':Nat->Bool} {t:Nat}:∀ (rows:List Row) (k:Nat) (L L':Hp),lk L t=lk L' t->
 (∀ (i:Nat) o r,rows[i]? =some (o,r)->t∈az r.wr->D (k+i)=D' (k+i))->lk (hD D k rows L) t=lk (hD D' k rows L') t
 |[],_,_,_,h,_=>h
 |(o,r)::rows,k,L,L',h,hd=>by
  simp only[hD]
  refine iM rows (k+1) _ _ ?_ fun i o' r' hi hk=>by
   have:=hd (i+1) o' r' (by simpa using hi) hk
   rwa [show k+1+i=k+(i+1) by omega]
  by_cases hk:t∈az r.wr
  ·have:=hd 0 o r rfl hk
   simp only[Nat.add_zero] at this;rw[this];cases D' k
   ·exact h
   ·exact mE _ _ _ _ h
  ·cases D k<;>cases D' k<;>simp[aN _ _ _ hk,h]
theorem vg:∀ (rows:List Row) (k i:Nat) (e:List V) (o:Oper) (r:R),rows[i]? =some (o,r)->
 eD (fun j=>decide (j<k+i+1)) k rows e=aB (eD (fun j=>decide (j<k+i)) k rows e) o.dst r.v
 |[],_,i,_,_,_,h=>by simp at h
 |(o',r')::rows,k,0,e,o,r,h=>by
  simp only[List.length_cons,List.getElem?_cons_zero,Option.some.injEq,Prod.mk.injEq] at h;obtain⟨rfl,rfl⟩:=h;simp only[eD];rw[i_ rows (k+1) _ (by intro j hj;simp;omega),i_ rows (k+1) _ (by intro j hj;simp;omega)];simp
 |(o',r')::rows,k,i+1,e,o,r,h=>by
  simp only[eD]
  have hk1:decide (k<k+(i+1)+1)=true:=by simp;omega
  have hk2:decide (k<k+(i+1))=true:=by simp
  simp only[hk1,hk2];have:=vg rows (k+1) i (aB e o'.dst r'.v) o r (by simpa using h);rw[show k+1+i+1=k+(i+1)+1 by omega,show k+1+i=k+(i+1) by omega] at this;exact this
theorem uQ:∀ (rows:List Row) (k i:Nat) (L:Hp) (o:Oper) (r:R),rows[i]? =some (o,r)->
 hD (fun j=>decide (j<k+i+1)) k rows L=puts (hD (fun j=>decide (j<k+i)) k rows L) r.wr
 |[],_,i,_,_,_,h=>by simp at h
 |(o',r')::rows,k,0,L,o,r,h=>by
  simp only[List.length_cons,List.getElem?_cons_zero,Option.some.injEq,Prod.mk.injEq] at h;obtain⟨rfl,rfl⟩:=h;simp only[hD];rw[gN rows (k+1) _ (by intro j hj;simp;omega),gN rows (k+1) _ (by intro j hj;simp;omega)];simp
 |(o',r')::rows,k,i+1,L,o,r,h=>by
  simp only[hD]
  have hk1:decide (k<k+(i+1)+1)=true:=by simp;omega
  have hk2:decide (k<k+(i+1))=true:=by simp
  simp only[hk1,hk2];have:=uQ rows (k+1) i (puts L r'.wr) o r (by simpa using h);rw[show k+1+i+1=k+(i+1)+1 by omega,show k+1+i=k+(i+1) by omega] at this;exact this
theorem RunOK.at {P:Program} {ops:Array Oper}:∀ (rows:List Row) (k i:Nat) (env:List V) (n:Nat) (L:Hp) (o:Oper) (r:R),RunOK P ops rows env n L->rows[i]? =some (o,r)->
 StepOK P ops o r (eD (fun j=>decide (j<k+i)) k rows env) (nAt rows n i) (hD (fun j=>decide (j<k+i)) k rows L)/\r.n'=nAt rows n (i+1)
 |[],_,i,_,_,_,_,_,_,h=>by simp at h
 |(o',r')::rows,k,0,env,n,L,o,r,hr,h=>by
  simp only[List.length_cons,List.getElem?_cons_zero,Option.some.injEq,Prod.mk.injEq] at h;obtain⟨rfl,rfl⟩:=h;rw[i_ _ k _ (by intro j hj;simp;omega),gN _ k _ (by intro j hj;simp;omega)];exact⟨hr.1,by simp[nAt]⟩
 |(o',r')::rows,k,i+1,env,n,L,o,r,hr,h=>by
  have:=RunOK.at rows (k+1) i _ _ _ o r hr.2 (by simpa using h)
  have hk2:decide (k<k+(i+1))=true:=by simp
  simp only[eD,hD,nAt,hk2];rw[show k+1+i=k+(i+1) by omega] at this;exact this
theorem RunOK.n_mono {P:Program} {ops:Array Oper}:∀ (rows:List Row) (env:List V) (n:Nat) (L:Hp) (i j:Nat),RunOK P ops rows env n L->i<=j->nAt rows n i<=nAt rows n j
 |rows,env,n,L,i,0,_,h=>by obtain rfl:i=0:=by omega
                           exact Nat.le_refl _
 |[],env,n,L,i,j+1,_,_=>by cases i<;>simp[nAt]
 |(o,r)::rows,env,n,L,0,j+1,hr,_=>by
  simp only[nAt];have h1:=hr.1.n_le;have h2:=RunOK.n_mono rows _ _ _ 0 j hr.2 (by omega)
  have h3:nAt rows r.n' 0=r.n':=by cases rows<;>rfl
  omega
 |(o,r)::rows,env,n,L,i+1,j+1,hr,h=>by
  simp only[nAt];exact RunOK.n_mono rows _ _ _ i j hr.2 (by omega)
def gF (ops:Array Oper) (D:Nat->Bool):Prop:=∀ (j:Nat) o,ops[j]? =some o->D j=true->∀ e∈o.after.toList,Region.binds .any e=true->D e.on=true
def Bef (ops:Array Oper) (i j:Nat):Prop:=∀ D,gF ops D->D j=true->D i=true
structure RegOK (ops:Array Oper) (rows:List Row):Prop where
 hops:rows.map (·.1)=ops.toList
 down:∀ (i:Nat) o,ops[i]? =some o->∀ e∈o.after.toList,Region.binds .any e=true->e.on<i
 slot:∀ (i j:Nat) oi ri oj rj t,i<j->rows[i]? =some (oi,ri)->rows[j]? =some (oj,rj)->
  (oi.dst=some t/\(oj.dst=some t\/t∈looks ops oj))\/(oj.dst=some t/\t∈looks ops oi)->Bef ops i j
 mem:∀ (i j:Nat) oi ri oj rj t,i<j->rows[i]? =some (oi,ri)->rows[j]? =some (oj,rj)->
  (t∈az ri.wr/\(t∈az rj.wr\/t∈rj.foot))\/(t∈az rj.wr/\t∈ri.foot)->Bef ops i j
theorem Good.congr {φ:Ph} {L M:Hp} {w:World} (h:Good φ M w) (e:∀ i,lk L i=lk M i):Good φ L w:=h.sub fun i bl hi=>by rw[<-e i];exact hi
theorem Stp.congr {φ φ':Ph} {L L' M':Hp} {w w':World} (h:Stp φ L w φ' M' w') (e:∀ i,lk L' i=lk M' i):Stp φ L w φ' L' w':=
 ⟨h.os,h.tape,h.output,h.size,h.keep,fun j bl b hj=>h.fresh j bl b (by rw[<-e j];exact hj),h.zle,h.zfr⟩
def dO (D:Nat->Bool) (i:Nat):Nat->Bool:=fun j=>decide (j=i)||D j
section
variable {P:Program} {ops:Array Oper} {rows:List Row} {env:List V} {n:Nat} {L:Hp} {D:Nat->Bool} {i:Nat} {o:Oper} {r:R}
theorem FO (ok:RegOK ops rows) (hc:gF ops D) (hi:rows[i]? =some (o,r)) (hD:D i=false)
 (hpre:∀ j,Bef ops j i->j≠i->D j=true):eD (dO D i) 0 rows env=aB (eD D 0 rows env) o.dst r.v:=by
 apply List.ext_getElem?;intro t;rw[fT];by_cases hd:o.dst=some t
 ·rw[if_pos hd,jI]
  have e:(eD (dO D i) 0 rows env)[t]? =(eD (fun j=>decide (j<0+i+1)) 0 rows env)[t]? :=by
   refine eI rows 0 env env rfl rfl fun j oj rj hj hdst=>?_
   simp only[Nat.zero_add,dO]
   rcases Nat.lt_trichotomy j i with h|rfl|h
   ·rw[hpre j (ok.slot j i oj rj o r t h hj hi (.inl ⟨hdst,.inl hd⟩)) (by omega)]
    simp;omega
   ·simp
   ·have:D j=false:=by
     cases e:D j with
     |false=>rfl
     |true=>rw[ok.slot i j o r oj rj t h hi hj (.inl ⟨hd,.inl hdst⟩) D hc e] at hD;cases hD
    rw[this];simp;omega
  rw[e,vg rows 0 i env o r hi,fT,if_pos hd,jI]
 ·rw[if_neg hd]
  refine eI rows 0 env env rfl rfl fun j oj rj hj hdst=>?_
  simp only[Nat.zero_add,dO]
  have:j≠i:=by rintro rfl;rw[hi] at hj;cases hj;exact hd hdst
  simp[this]
theorem Af (ok:RegOK ops rows) (hc:gF ops D) (hi:rows[i]? =some (o,r)) (hD:D i=false)
 (hpre:∀ j,Bef ops j i->j≠i->D j=true) (t:Nat):lk (Ab.hD (dO D i) 0 rows L) t=lk (puts (Ab.hD D 0 rows L) r.wr) t:=by
 by_cases hk:t∈az r.wr
 ·have e:lk (Ab.hD (dO D i) 0 rows L) t=lk (Ab.hD (fun j=>decide (j<0+i+1)) 0 rows L) t:=by
   refine iM rows 0 L L rfl fun j oj rj hj hkj=>?_
   simp only[Nat.zero_add,dO]
   rcases Nat.lt_trichotomy j i with h|rfl|h
   ·rw[hpre j (ok.mem j i oj rj o r t h hj hi (.inl ⟨hkj,.inl hk⟩)) (by omega)]
    simp;omega
   ·simp
   ·have:D j=false:=by
     cases e:D j with
     |false=>rfl
     |true=>rw[ok.mem i j o r oj rj t h hi hj (.inl ⟨hk,.inl hkj⟩) D hc e] at hD;cases hD
    rw[this];simp;omega
  rw[e,uQ rows 0 i L o r hi];exact fp _ _ _ _ hk
 ·rw[aN _ _ _ hk]
  refine iM rows 0 L L rfl fun j oj rj hj hkj=>?_
  simp only[Nat.zero_add,dO]
  have:j≠i:=by rintro rfl;rw[hi] at hj;cases hj;exact hk hkj
  simp[this]
theorem qx (ok:RegOK ops rows) (hc:gF ops D) (hi:rows[i]? =some (o,r)) (hD:D i=false)
 (hpre:∀ j,Bef ops j i->j≠i->D j=true):∀ t∈looks ops o,(eD D 0 rows env).getD t .undef=(eD (fun j=>decide (j<0+i)) 0 rows env).getD t .undef:=by
 intro t ht
 have e:(eD D 0 rows env)[t]? =(eD (fun j=>decide (j<0+i)) 0 rows env)[t]? :=by
  refine eI rows 0 env env rfl rfl fun j oj rj hj hdst=>?_
  simp only[Nat.zero_add]
  rcases Nat.lt_trichotomy j i with h|rfl|h
  ·rw[hpre j (ok.slot j i oj rj o r t h hj hi (.inl ⟨hdst,.inr ht⟩)) (by omega)]
   simp[h]
  ·rw[hD];simp
  ·have:D j=false:=by
    cases e:D j with
    |false=>rfl
    |true=>rw[ok.slot i j o r oj rj t h hi hj (.inr ⟨hdst,ht⟩) D hc e] at hD;cases hD
   rw[this];simp;omega
 simp only[List.getD_eq_getElem?_getD,e]
theorem te (ok:RegOK ops rows) (hc:gF ops D) (hi:rows[i]? =some (o,r)) (hD:D i=false)
 (hpre:∀ j,Bef ops j i->j≠i->D j=true):∀ t∈r.foot,lk (Ab.hD D 0 rows L) t=lk (Ab.hD (fun j=>decide (j<0+i)) 0 rows L) t:=by
 intro t ht
 refine iM rows 0 L L rfl fun j oj rj hj hkj=>?_
 simp only[Nat.zero_add]
 rcases Nat.lt_trichotomy j i with h|rfl|h
 ·rw[hpre j (ok.mem j i oj rj o r t h hj hi (.inl ⟨hkj,.inr ht⟩)) (by omega)]
  simp[h]
 ·rw[hD];simp
 ·have:D j=false:=by
   cases e:D j with
   |false=>rfl
   |true=>rw[ok.mem i j o r oj rj t h hi hj (.inr ⟨hkj,ht⟩) D hc e] at hD;cases hD
  rw[this];simp;omega
end
theorem FZ {ops:Array Oper} {D:Nat->Bool} {i:Nat} {o:Oper} (hc:gF ops D) (hi:ops[i]? =some o)
 (he:∀ e∈o.after.toList,Region.binds .any e=true->D e.on=true):∀ j,Bef ops j i->j≠i->D j=true:=by
 intro j hb hne;have:=hb (dO D i) ?_ (by simp[dO])
 ·simpa [dO,hne] using this
 ·intro k ok hk hD e hem hbd
  simp only[dO,Bool.or_eq_true,decide_eq_true_eq] at hD |-
  rcases hD with rfl|hD
  ·rw[hi] at hk;cases hk;exact .inr (he e hem hbd)
  ·exact .inr (hc k ok hk hD e hem hbd)
def Inv (P:Program) (rows:List Row) (env:List V) (n:Nat) (L:Hp) (φ₀:Ph) (w₀:World) (D:Nat->Bool) (a:Act) (w:World):Prop:=
 ∃ φ,EnvR φ (eD D 0 rows env) a/\Good φ (hD D 0 rows L) w/\Stp φ₀ L w₀ φ (hD D 0 rows L) w/\
   (∀ i,i<rows.length->D i=false->∀ x,nAt rows n i<=x->x<nAt rows n (i+1)->φ x=none)/\
   (∀ x,x<n\/nAt rows n rows.length<=x->φ x=φ₀ x)
def dOf (listed:Array Bool):Nat->Bool:=fun k=>listed.getD k false
theorem vk (listed:Array Bool) (i:Nat) (h:i<listed.size):dOf (listed.setIfInBounds i true)=dO (dOf listed) i:=by
 funext k
 simp only[dOf,dO,Array.getD_eq_getD_getElem?];by_cases hk:k=i
 ·subst hk;simp[h]
 ·simp[hk,Array.getElem?_setIfInBounds_ne (Ne.symm hk)]
theorem mV {ops:Array Oper} {listed:Array Bool} {i:Nat} (hs:listed.size=ops.size) (h:i∈Region.ready .any ops listed):
 ∃ o,ops[i]? =some o/\i<ops.size/\dOf listed i=false/\∀ e∈o.after.toList,Region.binds .any e=true->dOf listed e.on=true:=by
 simp only[Region.ready,List.mem_filter,List.mem_range,Bool.and_eq_true,Bool.not_eq_true'] at h;obtain⟨hi,hl,ha⟩:=h
 have ho:ops[i]? =some ops[i]:=by simp[hi]
 refine⟨ops[i],ho,hi,?_,?_⟩
 ·simp only[dOf,Array.getD_eq_getD_getElem?] at hl |-
  have:i<listed.size:=by omega
  simp[this] at hl |-;exact hl
 ·intro e he hb
  simp only[ho,Option.map_some,Option.getD_some] at ha;rw[<-Array.all_toList] at ha;have:=List.all_eq_true.1 ha e he
  simpa [hb,dOf] using this
theorem vX {ops:Array Oper} {listed:Array Bool} (hs:listed.size=ops.size) (down:∀ (i:Nat) o,ops[i]? =some o->∀ e∈o.after.toList,Region.binds .any e=true->e.on<i)
 (h:Region.ready .any ops listed=[]):∀ i,i<ops.size->dOf listed i=true:=by
 intro i
 induction i using Nat.strongRecOn with
 |_ i ih=>
  intro hi
  cases hd:dOf listed i with
  |true=>rfl
  |false=>
   exfalso
   have ho:ops[i]? =some ops[i]:=by simp[hi]
   have:i∈Region.ready .any ops listed:=by
    simp only[Region.ready,List.mem_filter,List.mem_range,Bool.and_eq_true,Bool.not_eq_true'];refine⟨hi,?_,?_⟩
    ·simp only[dOf,Array.getD_eq_getD_getElem?] at hd |-
     have:i<listed.size:=by omega
     simp[this] at hd |-;exact hd
    ·simp only[ho,Option.map_some,Option.getD_some]
     rw[<-Array.all_toList]
     refine List.all_eq_true.2 fun e he=>?_
     cases hb:Region.binds .any e with
     |false=>simp
     |true=>
      have hlt:=down i _ ho e he hb;have:=ih e.on hlt (by omega)
      simpa [dOf] using this
   rw[h] at this;cases this
theorem wW {l:List Bool} {i:Nat} (hi:i<l.length) (h:l[i]=false):(l.set i true).countP (! ·)+1=l.countP (! ·):=by
 induction l generalizing i with
 |nil=>simp at hi
 |cons b t ih=>
  cases i with
  |zero=>simp at h;subst h;simp[List.countP_cons]
  |succ i=>
   simp only[List.set_cons_succ,List.countP_cons];have:=ih (i:=i) (by simpa using hi) (by simpa using h);omega
theorem tN {P:Program} {ops:Array Oper} {rows:List Row} {env:List V} {n:Nat} {L:Hp} {φ₀:Ph} {w₀:World} {Q:Exit->Act->World->Prop}
 (ok:RegOK ops rows) (run:RunOK P ops rows env n L)
 (hQ:∀ a w,Inv P rows env n L φ₀ w₀ (fun _=>true) a w->Q .normal a w):
 ∀ (fuel:Nat) (listed:Array Bool) (a:Act) (w:World),listed.size=ops.size->listed.toList.countP (! ·)=fuel->gF ops (dOf listed)->Inv P rows env n L φ₀ w₀ (dOf listed) a w->
   wpAny P .any ops Q fuel listed a w:=by
 have hlen:rows.length=ops.size:=by rw[<-Array.length_toList,<-ok.hops,List.length_map]
 have fin:∀ (listed:Array Bool) a w,listed.size=ops.size->Inv P rows env n L φ₀ w₀ (dOf listed) a w->Region.ready .any ops listed=[]->Q .normal a w:=by
  intro listed a w hs hinv hr;refine hQ a w ?_;have hall:=vX hs ok.down hr;obtain⟨φ,h1,h2,h3,h4,h5⟩:=hinv
  have e1:eD (dOf listed) 0 rows env=eD (fun _=>true) 0 rows env:=by
   apply List.ext_getElem?;intro t
   refine eI rows 0 env env rfl rfl fun j oj rj hj _=>?_
   have:j<rows.length:=by
    rcases Nat.lt_or_ge j rows.length with h|h
    ·exact h
    ·simp[List.getElem?_eq_none h] at hj
   simp[hall j (by omega)]
  have e2:∀ t,lk (hD (fun _=>true) 0 rows L) t=lk (hD (dOf listed) 0 rows L) t:=fun t=>by
   refine (iM rows 0 L L rfl fun j oj rj hj _=>?_).symm
   have:j<rows.length:=by
    rcases Nat.lt_or_ge j rows.length with h|h
    ·exact h
    ·simp[List.getElem?_eq_none h] at hj
   simp[hall j (by omega)]
  exact⟨φ,e1▸h1,h2.congr e2,h3.congr e2,fun i _ h=>by simp at h,h5⟩
 intro fuel
 induction fuel with
 |zero=>
  intro listed a w hs hc _ hinv
  have hr:Region.ready .any ops listed=[]:=by
   cases hr:Region.ready .any ops listed with
   |nil=>rfl
   |cons i t=>
    exfalso;obtain⟨o,ho,hi,hd,_⟩:=mV hs (by rw[hr];exact .head _)
    have hz:∀ x∈listed.toList,x=true:=by
     intro x hx;have:=List.countP_eq_zero.1 hc x hx
     simpa using this
    have:listed[i]'(by omega)=true:=hz _ (by simp)
    have hi':i<listed.size:=by omega
    simp[dOf,Array.getD_eq_getD_getElem?,hi',this] at hd
  exact⟨hr,fin listed a w hs hinv hr⟩
 |succ fuel ih=>
  intro listed a w hs hc hcl hinv;refine⟨fin listed a w hs hinv,fun i hi=>?_⟩;obtain⟨o,ho,hlt,hd,hedges⟩:=mV hs hi
  have hrow:∃ r,rows[i]? =some (o,r):=by
   have h1:(rows.map (·.1))[i]? =some o:=by rw[ok.hops];simpa using ho
   rw[List.getElem?_map] at h1
   cases hx:rows[i]? with
   |none=>rw[hx] at h1;cases h1
   |some x=>rw[hx] at h1;simp at h1;subst h1;exact⟨x.2,rfl⟩
  obtain⟨r,hr⟩:=hrow;have hpre:=FZ hcl ho hedges;obtain⟨hstep,hn'⟩:=run.at rows 0 i env n L o r hr
  have hi':i<rows.length:=by omega
  obtain⟨φ,h1,h2,h3,h4,h5⟩:=hinv;refine hstep.wpOp ho (qx ok hcl hr hd hpre) (te ok hcl hr hd hpre) h1 h2 (fun x hx hx'=>h4 i hi' hd x hx (hn'▸hx')) ?_;intro φ' a' w' g1 g2 g3 g4
  have hli:i<listed.size:=by omega
  have hdl:listed[i]=false:=by simpa [dOf,Array.getD_eq_getD_getElem?,hli] using hd
  refine ih _ a' w' (by simpa using hs) ?_ ?_ ?_
  ·have:=wW (l:=listed.toList) (i:=i) (by simpa using hli) (by simpa using hdl)
   simp only[Array.toList_setIfInBounds];omega
  ·rw[vk _ _ hli]
   intro k ok' hk hD e hem hbd;simp only[dO,Bool.or_eq_true,decide_eq_true_eq] at hD |-
   rcases hD with rfl|hD
   ·rw[ho] at hk;cases hk;exact .inr (hedges e hem hbd)
   ·exact .inr (hcl k ok' hk hD e hem hbd)
  ·rw[vk _ _ hli]
   refine⟨φ',FO ok hcl hr hd hpre▸g1,g2.congr (Af ok hcl hr hd hpre),(h3.trans g3).congr (Af ok hcl hr hd hpre),?_,?_⟩
   ·intro k hk hDk x hx hx'
    simp only[dO,Bool.or_eq_false_iff,decide_eq_false_iff_not] at hDk;rw[g4 x ?_]
    ·exact h4 k hk hDk.2 x hx hx'
    ·rintro⟨q1,q2⟩
     rw[hn'] at q2
     rcases Nat.lt_trichotomy k i with h|h|h
     ·have:=run.n_mono rows env n L (k+1) i (by omega);omega
     ·exact hDk.1 h
     ·have:=run.n_mono rows env n L (i+1) k (by omega);omega
   ·intro x hx
    rw[g4 x ?_]
    ·exact h5 x hx
    ·rintro⟨q1,q2⟩
     rw[hn'] at q2;have m1:=run.n_mono rows env n L 0 i (by omega);have m2:=run.n_mono rows env n L (i+1) rows.length (by omega)
     have m3:nAt rows n 0=n:=by cases rows<;>rfl
     omega
abbrev Post:=Exit->List V->Nat->Hp->Prop
def Ex (P:Program) (b:Nat) (c:Code) (env:List V) (n:Nat) (L:Hp) (R:Post):Prop:=
 ∀ (φ:Ph) (a:Act) (w:World),EnvR φ env a->Good φ L w->(∀ i,n<=i->φ i=none)->b<=n->
   c.wp P (fun x a' w'=>∃ φ' env' n' L',R x env' n' L'/\EnvR φ' env' a'/\Good φ' L' w'/\(∀ i,n'<=i->φ' i=none)/\b<=n'/\Stp φ L w φ' L' w'/\(∀ i,i<b->φ' i=φ i)) a w
section
variable {P:Program} {b:Nat} {env:List V} {n:Nat} {L:Hp} {R R':Post}
theorem Ex.mono {c:Code} (h:Ex P b c env n L R) (hr:∀ x e m M,R x e m M->R' x e m M):Ex P b c env n L R':=by
 intro φ a w h1 h2 h3 h4;refine wp_mono (h φ a w h1 h2 h3 h4) ?_;rintro x a' w' ⟨φ',e,m,M,hR,rest⟩;exact⟨φ',e,m,M,hr _ _ _ _ hR,rest⟩
theorem Ex.here {c:Code} {x:Exit} (hc:∀ (Q:Exit->Act->World->Prop) a w,Q x a w->c.wp P Q a w) (h:R x env n L):Ex P b c env n L R:=by
 intro φ a w h1 h2 h3 h4;exact hc _ a w ⟨φ,env,n,L,h,h1,h2,h3,h4,Stp.refl _ _ _,fun _ _=>rfl⟩
theorem Ex.skip (h:R .normal env n L):Ex P b .skip env n L R:=Ex.here (fun _ _ _ h=>wp_skip h) h
theorem Ex.ret (h:R .ret env n L):Ex P b .ret env n L R:=Ex.here (fun _ _ _ h=>wp_ret h) h
theorem Ex.exit {id:Nat} (h:R (.exit id) env n L):Ex P b (.exit id) env n L R:=Ex.here (fun _ _ _ h=>wp_exit h) h
def Then (P:Program) (b:Nat) (y:Code) (R:Post):Post
 | .normal,e,m,M=>Ex P b y e m M R
 |x,e,m,M=>R x e m M
theorem Ex.seq {x y:Code} (h:Ex P b x env n L (Then P b y R)):Ex P b (.seq x y) env n L R:=by
 intro φ a w h1 h2 h3 h4;refine wp_seq (wp_mono (h φ a w h1 h2 h3 h4) ?_);rintro e a' w' ⟨φ',e',m,M,hR,g1,g2,g3,g4,g5,g6⟩
 cases e with
 |normal=>
  simp only[Exit.then];refine wp_mono (hR φ' a' w' g1 g2 g3 g4) ?_;rintro x a'' w'' ⟨φ'',e'',m',M',hR',k1,k2,k3,k4,k5,k6⟩;exact⟨φ'',e'',m',M',hR',k1,k2,k3,k4,g5.trans k5,fun i hi=>(k6 i hi).trans (g6 i hi)⟩
 |_=>exact⟨φ',e',m,M,hR,g1,g2,g3,g4,g5,g6⟩
theorem Ex.cond {c:Operand} {x y:Code} {t:Bool} (hc:ev env c=.s (.bool t)) (h:Ex P b (match t with|true=>x|false=>y) env n L R):Ex P b (.cond c x y) env n L R:=by
 intro φ a w h1 h2 h3 h4;have:=h1.ev c;rw[hc] at this;simp only[Vr,Sr] at this;refine wp_cond this ?_;have h':=h φ a w h1 h2 h3 h4
 cases t<;>exact h'
def InBlock (id:Nat) (R:Post):Post
 | .exit id',e,m,M=>match Nat.beq id' id with|true=>R .normal e m M|false=>R (.exit id') e m M
 |x,e,m,M=>R x e m M
theorem Ex.block {id:Nat} {c:Code} (h:Ex P b c env n L (InBlock id R)):Ex P b (.block id c) env n L R:=by
 intro φ a w h1 h2 h3 h4;refine wp_block (wp_mono (h φ a w h1 h2 h3 h4) ?_);rintro e a' w' ⟨φ',e',m,M,hR,g⟩
 cases e with
 |exit id'=>
  simp only[Exit.inBlock];by_cases hi:id'=id
  ·subst hi
   rw[if_pos rfl];simp only[InBlock,Nat.beq_refl] at hR;exact⟨φ',e',m,M,hR,g⟩
  ·rw[if_neg hi]
   simp only[InBlock,fD hi] at hR;exact⟨φ',e',m,M,hR,g⟩
 |_=>exact⟨φ',e',m,M,hR,g⟩
theorem Inv.zero {rows:List Row} {φ:Ph} {a:Act} {w:World} (h1:EnvR φ env a) (h2:Good φ L w) (h3:∀ i,n<=i->φ i=none) (mono:∀ i,n<=nAt rows n i):
 Inv P rows env n L φ w (fun _=>false) a w:=by
 refine⟨φ,?_,?_,?_,?_,fun _ _=>rfl⟩
 ·rw[i_ _ _ _ (fun _ _=>rfl)];exact h1
 ·rw[gN _ _ _ (fun _ _=>rfl)];exact h2
 ·rw[gN _ _ _ (fun _ _=>rfl)];exact Stp.refl _ _ _
 ·intro i _ _ x hx _;exact h3 x (Nat.le_trans (mono i) hx)
theorem lP {φ:Ph} {w:World} {d:Nat} (h:Good φ L w):Good φ L {w with drawn:=d}:=⟨h.hr,h.inj,h.fz,h.gz⟩
theorem mO {φ φ':Ph} {L':Hp} {w w':World} {d:Nat} (h:Stp φ L {w with drawn:=d} φ' L' w'):Stp φ L w φ' L' w':=⟨h.os,h.tape,h.output,h.size,h.keep,h.fresh,h.zle,h.zfr⟩
def ut (rows:List Row) (env:List V) (n:Nat) (L:Hp) (R:Post):Prop:=R .normal (eD (fun _=>true) 0 rows env) (nAt rows n rows.length) (hD (fun _=>true) 0 rows L)
theorem Ex.regionDraw (hm:P.follows .mixedOrders=true) {id:Nat} {ops:Array Oper} {rows:List Row} (ok:RegOK ops rows) (run:RunOK P ops rows env n L) (h:ut rows env n L R):
 Ex P b (.region id ops true) env n L R:=by
 intro φ a w h1 h2 h3 h4
 have mono:∀ i,n<=nAt rows n i:=fun i=>by
  have:=run.n_mono rows env n L 0 i (by omega)
  have m3:nAt rows n 0=n:=by cases rows<;>rfl
  omega
 refine wp_region_any hm (tN (φ₀:=φ) (w₀:={w with drawn:=w.drawn+1}) ok run ?_ ops.size _ a _ (by simp) ?_ ?_ ?_)
 ·rintro a' w' ⟨φ',g1,g2,g3,_,g5⟩
  refine⟨φ',_,_,_,h,g1,g2,fun i hi=>?_,Nat.le_trans h4 (mono _),mO g3,fun i hi=>g5 i (.inl (by omega))⟩;rw[g5 i (.inr hi)];exact h3 i (Nat.le_trans (mono _) hi)
 ·rw[Array.toList_replicate];simp[List.countP_replicate]
 ·intro j o _ hD;simp[dOf,Array.getD_eq_getD_getElem?,Array.getElem?_replicate] at hD
  split at hD<;>simp at hD
 ·have:dOf (Array.replicate ops.size false)=fun _=>false:=by
   funext k;simp only[dOf,Array.getD_eq_getD_getElem?,Array.getElem?_replicate];split<;>rfl
  rw[this];exact Inv.zero h1 (lP h2) h3 mono
theorem la {ops:Array Oper} {Q:Exit->Act->World->Prop} {φ₀:Ph} {w₀:World} {L₀:Hp} {n₀:Nat}:∀ (rows:List Row) (k:Nat) (env:List V) (n:Nat) (L:Hp) (φ:Ph) (a:Act) (w:World),
 (∀ j,ops[k+j]? =(rows[j]?).map (·.1))->RunOK P ops rows env n L->EnvR φ env a->Good φ L w->(∀ i,n<=i->φ i=none)->n₀<=n->Stp φ₀ L₀ w₀ φ L w->(∀ i,i<n₀->φ i=φ₀ i)->
 (∀ φ' a' w',EnvR φ' (eD (fun _=>true) k rows env) a'->Good φ' (hD (fun _=>true) k rows L) w'->(∀ i,nAt rows n rows.length<=i->φ' i=none)->
   n₀<=nAt rows n rows.length->Stp φ₀ L₀ w₀ φ' (hD (fun _=>true) k rows L) w'->(∀ i,i<n₀->φ' i=φ₀ i)->Q .normal a' w')->
 wpOps P ops Q (List.range' k rows.length) a w
 |[],k,env,n,L,φ,a,w,_,_,h1,h2,h3,h4,h5,h6,hQ=>hQ φ a w h1 h2 h3 h4 h5 h6
 |(o,r)::rows,k,env,n,L,φ,a,w,ho,hr,h1,h2,h3,h4,h5,h6,hQ=>by
  rw[List.length_cons,List.range'_succ,wpOps_cons];have hle:=hr.1.n_le;refine hr.1.wpOp (i:=k) (by simpa using ho 0) (fun _ _=>rfl) (fun _ _=>rfl) h1 h2 (fun i hi _=>h3 i hi) ?_;intro φ' a' w' g1 g2 g3 g4;refine la rows (k+1) _ _ _ φ' a' w' (fun j=>by rw[show k+1+j=k+(j+1) by omega];simpa using ho (j+1)) hr.2 g1 g2 ?_ (by omega) (h5.trans g3) ?_ hQ
  ·intro i hi
   rw[g4 i (by omega)];exact h3 i (by omega)
  ·intro i hi
   rw[g4 i (by omega)];exact h6 i hi
theorem Ex.regionText {id:Nat} {ops:Array Oper} {rows:List Row} (hops:rows.map (·.1)=ops.toList) (run:RunOK P ops rows env n L) (h:ut rows env n L R):
 Ex P b (.region id ops false) env n L R:=by
 intro φ a w h1 h2 h3 h4
 have hlen:rows.length=ops.size:=by rw[<-Array.length_toList,<-hops,List.length_map]
 refine wp_region ?_;rw[List.range_eq_range',<-hlen];refine la (n₀:=b) rows 0 env n L φ a w (fun j=>by rw[Nat.zero_add,<-Array.getElem?_toList,<-hops,List.getElem?_map]) run h1 h2 h3 h4 (Stp.refl _ _ _) (fun _ _=>rfl) ?_;intro φ' a' w' g1 g2 g3 g4 g5 g6;exact⟨φ',_,_,_,h,g1,g2,g3,g4,g5,g6⟩
end
def okS (n:Nat):S->Bool
 | .ptr (some (i,_))=>Nat.blt i n
 | .slc (some (i,_)) _ _=>Nat.blt i n
 | .sla i g _=>Nat.blt i n&&Nat.blt g n
 | .map (some i)=>Nat.blt i n
 | .itr r m=>Nat.blt r n&&Nat.blt m n
 | .clo _ ps=>ps.all fun p=>Nat.blt p.1 n
 | .opq _ t _=>t.lt n
 | .row i g _=>Nat.blt i n&&Nat.blt g n
 |_=>true
def okU (n:Nat):U->Bool
 | .s x=>okS n x
 | .agg l=>l.all (okS n)
def okV (n:Nat):V->Bool
 | .s x=>okS n x
 | .agg l=>l.all (okS n)
 | .tup l=>l.all (okU n)
 | .w i g _ _ _=>Nat.blt i n&&Nat.blt g n
 |_=>true
def okG (n:Nat):Option (Nat×Nat)->Bool
 |some (g,_)=>Nat.blt g n
 |none=>true
def okB (n:Nat) (bl:Bl):Bool:=okG n bl.gh&&match bl.flat with|true=>true|false=>bl.cells.all (okS n)
def okH (n:Nat):Hp->Bool
 |[]=>true
 |(i,some bl)::t=>Nat.blt i n&&okB n bl&&okH n t
 |(_,none)::t=>okH n t
def aj (n:Nat) (φ:Ph):Ph:=⟨fun i=>if i<n then φ i else none,φ.z⟩
theorem al {i n:Nat}:Nat.blt i n=true↔i<n:=by
 unfold Nat.blt;rw[Nat.ble_eq];omega
theorem Tm.ev_cut {φ:Ph} {n:Nat}:∀ {t:Tm},t.lt n=true->t.ev (aj n φ)=t.ev φ
 | .v i,h=>by simp only[Tm.ev,aj,if_pos (al.1 h)]
 | .c _,_=>rfl
 | .bin o k a b,h=>by
   simp only[Tm.lt,Bool.and_eq_true] at h;simp only[Tm.ev,Tm.ev_cut h.1,Tm.ev_cut h.2]
theorem qj {φ:Ph} {n:Nat}:∀ {ps:List (Nat×Nat)} {vs:List Value},All2 (PtrR φ) ps vs->(ps.all fun p=>Nat.blt p.1 n)=true->All2 (PtrR (aj n φ)) ps vs
 |[],[],_,_=>trivial
 |p::ps,v::vs,h,ok=>by
  simp only[List.all_cons,Bool.and_eq_true] at ok;obtain⟨b,hb,hv⟩:=h.1;exact⟨⟨b,by simp only[aj,if_pos (al.1 ok.1)];exact hb,hv⟩,qj h.2 ok.2⟩
 |[],_::_,h,_=>h.elim
 |_::_,[],h,_=>h.elim
theorem Sr.cut {φ:Ph} {n:Nat} {x:S} {v:Value} (h:Sr φ x v) (ok:okS n x=true):Sr (aj n φ) x v:=by
 cases x with
 |unk|bool|int|str|junk|emp|emq|fn|gp|frz|fpt|cst=>exact h
 |row i g m=>
  simp only[okS,Bool.and_eq_true] at ok
  rcases h with h|⟨h0,b,k,hb,hg,hv⟩
  ·exact .inl h
  ·exact .inr ⟨h0,b,k,by simp only[aj,if_pos (al.1 ok.1)];exact hb,by simp only[aj,if_pos (al.1 ok.2)];exact hg,hv⟩
 |map a=>
  rcases a with _|i
  ·exact h
  ·obtain⟨b,hb,hv⟩:=h;exact⟨b,by simp only[aj,if_pos (al.1 ok)];exact hb,hv⟩
 |itr r m=>
  simp only[okS,Bool.and_eq_true] at ok;obtain⟨b,hb,hv⟩:=h;exact⟨b,by simp only[aj,if_pos (al.1 ok.1)];exact hb,hv⟩
 |clo f ps=>obtain⟨vs,hv,ha⟩:=h;exact⟨vs,hv,qj ha ok⟩
 |opq k t K=>obtain⟨z,hb,hv⟩:=h;exact⟨z,(Tm.ev_cut ok).trans hb,hv⟩
 |sla i g m=>
  simp only[okS,Bool.and_eq_true] at ok;obtain⟨b,k,hb,hg,hv⟩:=h;exact⟨b,k,by simp only[aj,if_pos (al.1 ok.1)];exact hb,by simp only[aj,if_pos (al.1 ok.2)];exact hg,hv⟩
 |ptr a=>
  rcases a with _|⟨i,o⟩
  ·exact h
  ·obtain⟨b,hb,hv⟩:=h;exact⟨b,by simp only[aj,if_pos (al.1 ok)];exact hb,hv⟩
 |slc a m c=>
  rcases a with _|⟨i,o⟩
  ·exact h
  ·obtain⟨b,k,hb,hv⟩:=h;exact⟨b,k,by simp only[aj,if_pos (al.1 ok)];exact hb,hv⟩
theorem jf {φ:Ph} {n:Nat}:∀ {l:List S} {xs:List Value},All2 (Sr φ) l xs->l.all (okS n)=true->All2 (Sr (aj n φ)) l xs
 |[],[],_,_=>trivial
 |_::_,_::_,h,ok=>by
  simp only[List.all_cons,Bool.and_eq_true] at ok;exact⟨h.1.cut ok.1,jf h.2 ok.2⟩
 |[],_::_,h,_=>h.elim
 |_::_,[],h,_=>h.elim
theorem Ur.cut {φ:Ph} {n:Nat} {x:U} {v:Value} (h:Ur φ x v) (ok:okU n x=true):Ur (aj n φ) x v:=by
 cases x with
 |s x=>exact Sr.cut h ok
 |agg l=>obtain⟨xs,hv,ha⟩:=h;exact⟨xs,hv,jf ha ok⟩
theorem nB {φ:Ph} {n:Nat}:∀ {l:List U} {xs:List Value},All2 (Ur φ) l xs->l.all (okU n)=true->All2 (Ur (aj n φ)) l xs
 |[],[],_,_=>trivial
 |_::_,_::_,h,ok=>by
  simp only[List.all_cons,Bool.and_eq_true] at ok;exact⟨h.1.cut ok.1,nB h.2 ok.2⟩
 |[],_::_,h,_=>h.elim
 |_::_,[],h,_=>h.elim
theorem Vr.cut {φ:Ph} {n:Nat} {x:V} {v:Value} (h:Vr φ x v) (ok:okV n x=true):Vr (aj n φ) x v:=by
 cases x with
 |any=>trivial
 |undef=>exact h
 |s x=>exact Sr.cut h ok
 |agg l=>obtain⟨xs,hv,ha⟩:=h;exact⟨xs,hv,jf ha ok⟩
 |tup l=>obtain⟨xs,hv,ha⟩:=h;exact⟨xs,hv,nB ha ok⟩
 |w i g sz j m=>
  simp only[okV,Bool.and_eq_true] at ok;obtain⟨b,k,hb,hg,hv⟩:=h;exact⟨b,k,by simp only[aj,if_pos (al.1 ok.1)];exact hb,by simp only[aj,if_pos (al.1 ok.2)];exact hg,hv⟩
theorem fb {φ:Ph} {n:Nat}:∀ {l:List V} {xs:List Value},All2 (Vr φ) l xs->l.all (okV n)=true->All2 (Vr (aj n φ)) l xs
 |[],[],_,_=>trivial
 |_::_,_::_,h,ok=>by
  simp only[List.all_cons,Bool.and_eq_true] at ok;exact⟨h.1.cut ok.1,fb h.2 ok.2⟩
 |[],_::_,h,_=>h.elim
 |_::_,[],h,_=>h.elim
theorem bL {n:Nat}:∀ {L:Hp} {i:Nat} {bl:Bl},okH n L=true->lk L i=some bl->i<n/\okB n bl=true
 |[],_,_,_,h=>by simp[lk] at h
 |(j,c)::t,i,bl,ok,h=>by
  rw[ak] at h
  cases c with
  |none=>
   simp only[okH] at ok;split at h
   ·cases h
   ·exact bL ok h
  |some c=>
   simp only[okH,Bool.and_eq_true] at ok;split at h
   ·rename_i e;subst e;cases h;exact⟨al.1 ok.1.1,ok.1.2⟩
   ·exact bL ok.2 h
theorem BlAt.cut {φ:Ph} {n:Nat} {w:World} {b:Nat×Nat} {bl:Bl} (h:BlAt φ w b bl) (ok:okB n bl=true):BlAt (aj n φ) w b bl:=by
 obtain⟨pre,xs,rest,fr,h1,hp,h2,h3,h4,h5⟩:=h;unfold okB at ok;simp only[Bool.and_eq_true] at ok;obtain⟨okg,ok⟩:=ok;refine⟨pre,xs,rest,fr,h1,hp,?_,h3,h4,fun g z e=>?_,h5.2⟩
 rotate_left
 ·obtain⟨k,hk,hz⟩:=h5.1 g z e
  rw[e] at okg;exact⟨k,by simp only[aj,if_pos (al.1 okg)];exact hk,hz⟩
 unfold Bl.ph at h2 |-
 cases hf:bl.flat with
 |true=>simp only[hf] at h2 |-;exact h2
 |false=>simp only[hf] at h2 ok |-;exact jf h2 ok
theorem Good.cut {φ:Ph} {n:Nat} {L:Hp} {w:World} (h:Good φ L w) (ok:okH n L=true):Good (aj n φ) L w:=by
 refine⟨fun i bl hi=>?_,fun i j bl bl' b b' hi hj hb hb'=>?_,fun b l hb=>⟨(h.fz b l hb).1,?_⟩,h.gz⟩
 rotate_left 2
 ·rintro⟨i,bl,c,hi,hc,hcb,hro⟩
  simp only[aj] at hc;split at hc
  ·exact (h.fz b l hb).2 ⟨i,bl,c,hi,hc,hcb,hro⟩
  ·cases hc
 ·obtain⟨b,hb,hat⟩:=h.hr i bl hi
  obtain⟨hlt,hok⟩:=bL ok hi;exact⟨b,by simp only[aj,if_pos hlt];exact hb,hat.cut hok⟩
 ·have h1:=(bL ok hi).1
  have h2:=(bL ok hj).1;simp only[aj,if_pos h1] at hb;simp only[aj,if_pos h2] at hb';exact h.inj i j bl bl' b b' hi hj hb hb'
def wkE (keep:List Nat):Nat->List V->List V
 |_,[]=>[]
 |i,v::t=>(match keep.elem i with|true=>v|false=> .any)::wkE keep (i+1) t
theorem xr {φ:Ph} {keep:List Nat}:∀ {i:Nat} {env:List V} {xs:List Value},All2 (Vr φ) env xs->All2 (Vr φ) (wkE keep i env) xs
 |_,[],[],_=>trivial
 |i,v::t,x::xs,h=>by
  simp only[wkE];refine⟨?_,xr h.2⟩;cases keep.elem i
  ·trivial
  ·exact h.1
 |_,[],_::_,h=>h.elim
 |_,_::_,[],h=>h.elim
structure Wk (n:Nat) (env:List V) (L:Hp) (env':List V) (L':Hp):Prop where
 e:∀ φ xs,All2 (Vr φ) env xs->All2 (Vr φ) env' xs
 l:∀ φ w,Good φ L w->Good φ L' w
 s:∀ i bl,lk L' i=some bl->∃ bl',lk L i=some bl'/\(bl'.ro=true->bl.ro=true)
 okE:env'.all (okV n)=true
 okL:okH n L'=true
theorem Wk.of {n:Nat} {env:List V} {L:Hp} {env':List V} {L':Hp} (keep:List Nat) (he:wkE keep 0 env=env') (hl:Sub L' L) (o1:env'.all (okV n)=true) (o2:okH n L'=true):Wk n env L env' L':=
 ⟨fun φ xs h=>he▸xr h,fun _ _ h=>h.sub hl,fun i bl h=>⟨bl,hl i bl h,id⟩,o1,o2⟩
end Ab
end Go.Proofs.YtegjgpldfgjoiaaGreatDoor
