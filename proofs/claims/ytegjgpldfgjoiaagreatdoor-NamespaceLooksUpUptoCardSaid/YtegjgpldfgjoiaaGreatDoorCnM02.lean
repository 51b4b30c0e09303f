import Derived.Test.YtegjgpldfgjoiaaGreatDoorCnM00
import Derived.LoopN
set_option linter.all false
namespace Go.Proofs.YtegjgpldfgjoiaaGreatDoor
namespace Ab
open Go
section
variable {env:List V} {φ:Ph} {o:Oper} {a:Act} {ops:Array Oper} {n:Nat} {P:Program} {L:Hp}
def cv:Value->V
 | .bool b=> .s (.bool b)
 | .int k n=> .s (.int k n)
 | .string s=> .s (.str s.data.toList)
 | .pointer none=> .s (.ptr none)
 | .slice none 0 0=> .s (.slc none 0 (some 0))
 |_=> .any
theorem zB (φ:Ph) (v:Value):Vr φ (cv v) v:=by
 unfold cv
 split<;>simp[Vr,Sr]
def ev (env:List V):Operand->V
 | .tmp t=>env.getD t .undef
 | .const v=>cv v
 | .func f=> .s (.fn f)
 | .global g=> .s (.gp g 0)
def EnvR (φ:Ph) (env:List V) (a:Act):Prop:=a.defers=[]/\All2 (Vr φ) env a.tmps.toList
theorem EnvR.mono {φ':Ph} (hl:φ.le φ') (h:EnvR φ env a):EnvR φ' env a:=⟨h.1,h.2.mono λ_ _=>Vr.mono hl⟩
theorem EnvR.slot (h:EnvR φ env a) (t:Nat):Vr φ (env.getD t .undef) (a.tmps.getD t Go.undef):=by
 have hl:=h.2.len
 rcases Z0a t env.length with hi|hi
 ·obtain⟨b,hb,hr⟩:=h.2.get (i:=t) (a:=env[t]) (by simp[hi])
  have e1:env.getD t .undef=env[t]:=by simp[List.getD,hi]
  have e2:a.tmps.getD t Go.undef=b:=by simp[Z1x,<-Z4z,hb]
  rw[e1,e2];exact hr
 ·have e1:env.getD t .undef=.undef:=by simp[List.getD,hi]
  have e2:a.tmps.getD t Go.undef=Go.undef:=by
   have:a.tmps.size<=t:=by rw[<-Z28];omega
   simp[Z1x,this]
  rw[e1,e2];rfl
theorem EnvR.ev (h:EnvR φ env a) (x:Operand):Vr φ (ev env x) (a.eval x):=by
 cases x with
 |tmp t=>exact h.slot t
 |const v=>exact zB φ v
 |global g=>rfl
 |func f=>rfl
def a_ (env:List V):Option Tmp->V->List V
 |none,_=>env
 |some d,v=>env.set d v
theorem mg (env:List V) (d:Option Tmp) (v:V):(a_ env d v).length=env.length:=by cases d<;>simp[a_]
theorem kr (env:List V) (d:Option Tmp) (v:V) (t:Nat):(a_ env d v)[t]? =if d=some t then (if t<env.length then some v else none) else env[t]? :=by
 cases d with
 |none=>simp[a_]
 |some d=>
  simp only[a_,Z06];by_cases h:d=t
  ·subst h;simp[Z1i]
  ·simp[h,Z53 h]
theorem EnvR.put (h:EnvR φ env a) (d:Option Tmp) {v:V} {x:Value} (hv:Vr φ v x):EnvR φ (a_ env d v) (a.put d x):=by
 cases d with
 |none=>exact h
 |some d=>exact⟨h.1,by simpa [a_,Act.put] using h.2.set hv⟩
def OpL (P:Program) (o:Oper) (env:List V) (n:Nat) (L:Hp) (v:V) (n':Nat) (L':Hp):Prop:=
 ∀ (φ:Ph) (a:Act) (w:World) (Q:Exit->Act->World->Prop),
   (∀ x∈o.op.operands,Vr φ (ev env x) (a.eval x))->Good φ L w->(∀ i,n<=i->i<n'->φ i=none)->
   o.wp P a w (λa' w'=>∃ φ' x,a'=a.put o.dst x/\Vr φ' v x/\Good φ' L' w'/\Stp φ L w φ' L' w'/\(∀ i,¬(n<=i/\i<n')->φ' i=φ i)) Q
theorem iL {φ':Ph} {n':Nat} (h0:∀ i,n<=i->i<n'->φ i=none) (h:∀ i,¬(n<=i/\i<n')->φ' i=φ i) (hz:∀ b l,φ.z b=some l->φ'.z b=some l):φ.le φ':=by
 refine⟨λi b hb=>?_,hz⟩;by_cases hi:n<=i/\i<n'
 ·rw[h0 i hi.1 hi.2] at hb;cases hb
 ·rw[h i hi];exact hb
structure R where
 foot:List Nat
 v:V
 wr:Hp
 n':Nat
def res (foot:List Nat) (L:Hp):Hp:=foot.map λi=>(i,lk L i)
theorem bq (foot:List Nat) (L:Hp) (i:Nat):lk (res foot L) i=if i∈foot then lk L i else none:=by
 induction foot with
 |nil=>simp[res,lk]
 |cons j t ih=>
  have:res (j::t) L=(j,lk L j)::res t L:=rfl;rw[this,bd,ih];by_cases h:j=i
  ·subst h;simp
  ·simp[h,Z48 h]
def bw (W:Hp):List Nat:=W.map (·.1)
theorem bK (W:Hp):∀ (L:Hp) (i:Nat),i∉bw W->lk (aw L W) i=lk L i:=by
 induction W with
 |nil=>intro L i _;rfl
 |cons x t ih=>
  intro L i h;obtain⟨j,b⟩:=x;simp only[bw,Z13,Z0h,not_or] at h;simp only[aw];rw[ih _ _ h.2,az,if_neg (λe=>h.1 e.symm)]
theorem g8 (W:Hp):∀ (L M:Hp) (i:Nat),i∈bw W->lk (aw L W) i=lk (aw M W) i:=by
 induction W with
 |nil=>intro L M i h;simp[bw] at h
 |cons x t ih=>
  intro L M i h;obtain⟨j,b⟩:=x;simp only[aw];by_cases ht:i∈bw t
  ·exact ih _ _ _ ht
  ·simp only[bw,Z13,Z0h] at h
   have hj:i=j:=h.resolve_right ht;rw[bK _ _ _ ht,bK _ _ _ ht,az,az,if_pos hj.symm,if_pos hj.symm]
theorem pG (W:Hp) (L M:Hp) (i:Nat) (h:lk L i=lk M i):lk (aw L W) i=lk (aw M W) i:=by
 by_cases hi:i∈bw W
 ·exact g8 W L M i hi
 ·rw[bK _ _ _ hi,bK _ _ _ hi,h]
theorem OpL.step {envD:List V} {LD:Hp} {r:R} (h:OpL P o env n (res r.foot L) r.v r.n' (aw (res r.foot L) r.wr))
 (he:∀ x∈o.op.operands,ev envD x=ev env x) (hL:∀ i∈r.foot,lk LD i=lk L i)
 {φ:Ph} {a:Act} {w:World} (Q:Exit->Act->World->Prop) (ha:EnvR φ envD a) (hg:Good φ LD w) (hf:∀ i,n<=i->i<r.n'->φ i=none):
 o.wp P a w (λa' w'=>∃ φ',EnvR φ' (a_ envD o.dst r.v) a'/\Good φ' (aw LD r.wr) w'/\Stp φ LD w φ' (aw LD r.wr) w'/\(∀ i,¬(n<=i/\i<r.n')->φ' i=φ i)) Q:=by
 have hs:vv (res r.foot L) LD:=by
  intro i bl hi;rw[bq] at hi;split at hi
  ·rename_i hm;rw[hL i hm];exact hi
  ·cases hi
 refine Z4v ?_ (h φ a w Q (λx hx=>he x hx▸ha.ev x) (hg.sub hs) hf);rintro a' w' ⟨φ',x,rfl,hv,hg',st,hag⟩;have hl:=iL hf hag st.zle
 obtain⟨g2,s2⟩:=frame (M':=aw LD r.wr) hg hs hg' st hl (by
  intro i bl hi;by_cases hk:i∈bw r.wr
  ·exact .inl (by rw[g8 r.wr _ LD i hk];exact hi)
  ·rw[bK _ _ _ hk] at hi |-
   by_cases hm:i∈r.foot
   ·exact .inl (by rw[bq,if_pos hm,<-hL i hm];exact hi)
   ·exact .inr ⟨by rw[bq,if_neg hm],hi⟩)
 exact⟨φ',(ha.mono hl).put o.dst hv,g2,s2,hag⟩
def aY (ops:Array Oper) (env:List V) (o:Oper):Option Bool:=
 match o.guard with
 |none=>some true
 |some (j,b)=>
  match (ops[j]?).bind (·.dst) with
  |none=>some false
  |some t=>
   match env.getD t .undef with
   | .s (.bool c)=>some (c==b)
   | .undef=>some false
   |_=>none
theorem AH {b:Bool} (h:EnvR φ env a) (hw:aY ops env o=some b):
 Region.wanted o (yielded ops a.tmps)=b:=by
 unfold aY at hw;unfold Region.wanted
 cases hg:o.guard with
 |none=>simp[hg] at hw;simp[<-hw]
 |some g=>
  obtain⟨j,c⟩:=g;simp only[hg] at hw;simp only[yielded]
  cases hd:(ops[j]?).bind (·.dst) with
  |none=>simp[hd] at hw;simp[<-hw]
  |some t=>
   simp only[hd] at hw;simp only[Option.bind_some];have hs:=h.slot t
   have e:a.tmps.getD t Go.undef=(a.tmps[t]?).getD Go.undef:=by simp[Z1x]
   generalize env.getD t .undef=x at hw hs
   cases x with
   |any=>simp at hw
   |agg _=>simp at hw
   |tup _=>simp at hw
   |w=>simp at hw
   |undef=>
    simp at hw;subst hw;simp only[Vr] at hs;rw[e] at hs
    cases ht:a.tmps[t]? with
    |none=>rfl
    |some y=>rw[ht] at hs;simp at hs;subst hs;rfl
   |s y=>
    cases y with
    |bool d=>
     simp at hw;subst hw;simp only[Vr,Sr] at hs;rw[e] at hs
     cases ht:a.tmps[t]? with
     |none=>rw[ht] at hs;simp[Go.undef] at hs
     |some y=>rw[ht] at hs;simp at hs;subst hs;cases d<;>cases c<;>rfl
    |_=>simp at hw
def StepOK (P:Program) (ops:Array Oper) (o:Oper) (r:R) (env:List V) (n:Nat) (L:Hp):Prop:=
 (aY ops env o=some true/\OpL P o env n (res r.foot L) r.v r.n' (aw (res r.foot L) r.wr)/\n<=r.n')\/
 (aY ops env o=some false/\r.v=.undef/\r.wr=[]/\r.n'=n)
theorem StepOK.n_le {r:R} (h:StepOK P ops o r env n L):n<=r.n':=by
 rcases h with ⟨_,_,h⟩|⟨_,_,_,h⟩<;>omega
def looks (ops:Array Oper) (o:Oper):List Tmp:=o.looksAt ops
theorem nE {env':List V} (h:∀ t∈looks ops o,env.getD t .undef=env'.getD t .undef):aY ops env o=aY ops env' o:=by
 unfold aY
 cases hg:o.guard with
 |none=>rfl
 |some g=>
  obtain⟨j,c⟩:=g;simp only[]
  cases hd:(ops[j]?).bind (·.dst) with
  |none=>rfl
  |some t=>simp only[];rw[h t (by simp[looks,Oper.looksAt,hg,hd])]
theorem CK {env':List V} (h:∀ t∈looks ops o,env.getD t .undef=env'.getD t .undef):∀ x∈o.op.operands,ev env x=ev env' x:=by
 intro x hx
 cases x with
 |tmp t=>exact h t (Z3c _ (List.mem_filterMap.2 ⟨.tmp t,by simpa using hx,rfl⟩))
 |_=>rfl
theorem StepOK.wpOp {r:R} {envD:List V} {LD:Hp} (h:StepOK P ops o r env n L) {i:Nat} (hi:ops[i]? =some o)
 (he:∀ t∈looks ops o,envD.getD t .undef=env.getD t .undef) (hL:∀ i∈r.foot,lk LD i=lk L i)
 {φ:Ph} {a:Act} {w:World} {Q:Exit->Act->World->Prop} (ha:EnvR φ envD a) (hg:Good φ LD w) (hf:∀ i,n<=i->i<r.n'->φ i=none)
 {K:Act->World->Prop} (hK:∀ φ' a' w',EnvR φ' (a_ envD o.dst r.v) a'->Good φ' (aw LD r.wr) w'->Stp φ LD w φ' (aw LD r.wr) w'->(∀ i,¬(n<=i/\i<r.n')->φ' i=φ i)->K a' w'):
 Go.wpOp P ops Q i K a w:=by
 unfold Go.wpOp;simp only[hi]
 rcases h with ⟨hw,hop,_⟩|⟨hw,hv,hwr,hn⟩
 ·rw[<-nE he] at hw
  rw[AH ha hw];simp only[if_true];refine .inl (Z4v ?_ (hop.step (CK he) hL Q ha hg hf));rintro a' w' ⟨φ',h1,h2,h3,h4⟩;exact hK φ' a' w' h1 h2 h3 h4
 ·rw[<-nE he] at hw
  rw[AH ha hw];simp only[Z0l,if_false];rw[hv,hwr] at hK;exact hK φ _ w (ha.put o.dst (show Vr φ .undef Go.undef from rfl)) hg (Stp.refl _ _ _) (λ_ _=>rfl)
end
section
variable {ops:Array Oper} {L:Hp} {i:Nat}
abbrev Row:=Oper×R
def eD (D:Nat->Bool):Nat->List Row->List V->List V
 |_,[],e=>e
 |k,(o,r)::t,e=>eD D (k+1) t (match D k with|true=>a_ e o.dst r.v|false=>e)
def hD (D:Nat->Bool):Nat->List Row->Hp->Hp
 |_,[],L=>L
 |k,(_,r)::t,L=>hD D (k+1) t (match D k with|true=>aw L r.wr|false=>L)
def ou:List Row->Nat->Nat->Nat
 |_,n,0=>n
 |[],n,_+1=>n
 |(_,r)::t,_,i+1=>ou t r.n' i
def RunOK (P:Program) (ops:Array Oper):List Row->List V->Nat->Hp->Prop
 |[],_,_,_=>True
 |(o,r)::t,env,n,L=>StepOK P ops o r env n L/\RunOK P ops t (a_ env o.dst r.v) r.n' (aw L r.wr)
theorem lV (D:Nat->Bool):∀ (rows:List Row) (k:Nat) (e:List V),(eD D k rows e).length=e.length
 |[],_,_=>rfl
 |(o,r)::t,k,e=>by
  simp only[eD];rw[lV D t]
  cases D k<;>simp[mg]
theorem kX {D:Nat->Bool}:∀ (rows:List Row) (k:Nat) (e:List V),(∀ j,k<=j->D j=false)->eD D k rows e=e
 |[],_,_,_=>rfl
 |(o,r)::t,k,e,h=>by
  simp only[eD,h k (Z02 _)]
  exact kX t (k+1) e λj hj=>h j aa
theorem ji {D:Nat->Bool}:∀ (rows:List Row) (k:Nat) (L:Hp),(∀ j,k<=j->D j=false)->hD D k rows L=L
 |[],_,_,_=>rfl
 |(o,r)::t,k,L,h=>by
  simp only[hD,h k (Z02 _)]
  exact ji t (k+1) L λj hj=>h j aa
theorem gB {D D':Nat->Bool} {t:Nat}:∀ (rows:List Row) (k:Nat) (e e':List V),e[t]? =e'[t]? ->e.length=e'.length->
 (∀ (i:Nat) o r,rows[i]? =some (o,r)->o.dst=some t->D (k+i)=D' (k+i))->(eD D k rows e)[t]? =(eD D' k rows e')[t]?
 |[],_,_,_,h,_,_=>h
 |(o,r)::rows,k,e,e',h,hl,hd=>by
  simp only[eD]
  refine gB rows (k+1) _ _ ?_ ?_ λi o' r' hi hdst=>by
   have:=hd (i+1) o' r' (by simpa using hi) hdst
   rwa [show k+1+i=k+(i+1) by omega]
  ·by_cases hdst:o.dst=some t
   ·have:=hd 0 o r rfl hdst
    simp only[Z0p] at this;rw[this]
    cases D' k<;>simp[kr,hdst,hl,h]
   ·cases D k<;>cases D' k<;>simp[kr,hdst,h]
  ·cases D k<;>cases D' k<;>simp[mg,hl]
theorem kK {D D':Nat->Bool} {t:Nat}:∀ (rows:List Row) (k:Nat) (L L':Hp),lk L t=lk L' t->
 (∀ (i:Nat) o r,rows[i]? =some (o,r)->t∈bw r.wr->D (k+i)=D' (k+i))->lk (hD D k rows L) t=lk (hD D' k rows L') t
 |[],_,_,_,h,_=>h
 |(o,r)::rows,k,L,L',h,hd=>by
  simp only[hD]
  refine kK rows (k+1) _ _ ?_ λi o' r' hi hk=>by
   have:=hd (i+1) o' r' (by simpa using hi) hk
   rwa [show k+1+i=k+(i+1) by omega]
  by_cases hk:t∈bw r.wr
  ·have:=hd 0 o r rfl hk
   simp only[Z0p] at this;rw[this];cases D' k
   ·exact h
   ·exact pG _ _ _ _ h
  ·cases D k<;>cases D' k<;>simp[bK _ _ _ hk,h]
theorem yq:∀ (rows:List Row) (k i:Nat) (e:List V) (o:Oper) (r:R),rows[i]? =some (o,r)->
 eD (λj=>decide (j<k+i+1)) k rows e=a_ (eD (λj=>decide (j<k+i)) k rows e) o.dst r.v
 |[],_,i,_,_,_,h=>by simp at h
 |(o',r')::rows,k,0,e,o,r,h=>by
  simp only[Z04,Z11,Z06,Z0j] at h;obtain⟨rfl,rfl⟩:=h;simp only[eD];rw[kX rows (k+1) _ (by intro j hj;simp;omega),kX rows (k+1) _ (by intro j hj;simp;omega)];simp
 |(o',r')::rows,k,i+1,e,o,r,h=>by
  simp only[eD]
  have hk1:decide (k<k+(i+1)+1)=true:=by simp;omega
  have hk2:decide (k<k+(i+1))=true:=an;simp only[hk1,hk2];have:=yq rows (k+1) i (a_ e o'.dst r'.v) o r (by simpa using h);rw[show k+1+i+1=k+(i+1)+1 by omega,show k+1+i=k+(i+1) by omega] at this;exact this
theorem yc:∀ (rows:List Row) (k i:Nat) (L:Hp) (o:Oper) (r:R),rows[i]? =some (o,r)->
 hD (λj=>decide (j<k+i+1)) k rows L=aw (hD (λj=>decide (j<k+i)) k rows L) r.wr
 |[],_,i,_,_,_,h=>by simp at h
 |(o',r')::rows,k,0,L,o,r,h=>by
  simp only[Z04,Z11,Z06,Z0j] at h;obtain⟨rfl,rfl⟩:=h;simp only[hD];rw[ji rows (k+1) _ (by intro j hj;simp;omega),ji rows (k+1) _ (by intro j hj;simp;omega)];simp
 |(o',r')::rows,k,i+1,L,o,r,h=>by
  simp only[hD]
  have hk1:decide (k<k+(i+1)+1)=true:=by simp;omega
  have hk2:decide (k<k+(i+1))=true:=an;simp only[hk1,hk2];have:=yc rows (k+1) i (aw L r'.wr) o r (by simpa using h);rw[show k+1+i+1=k+(i+1)+1 by omega,show k+1+i=k+(i+1) by omega] at this;exact this
theorem RunOK.at {P:Program} {ops:Array Oper}:∀ (rows:List Row) (k i:Nat) (env:List V) (n:Nat) (L:Hp) (o:Oper) (r:R),RunOK P ops rows env n L->rows[i]? =some (o,r)->
 StepOK P ops o r (eD (λj=>decide (j<k+i)) k rows env) (ou rows n i) (hD (λj=>decide (j<k+i)) k rows L)/\r.n'=ou rows n (i+1)
 |[],_,i,_,_,_,_,_,_,h=>by simp at h
 |(o',r')::rows,k,0,env,n,L,o,r,hr,h=>by
  simp only[Z04,Z11,Z06,Z0j] at h;obtain⟨rfl,rfl⟩:=h;rw[kX _ k _ (by intro j hj;simp;omega),ji _ k _ (by intro j hj;simp;omega)];exact⟨hr.1,by simp[ou]⟩
 |(o',r')::rows,k,i+1,env,n,L,o,r,hr,h=>by
  have:=RunOK.at rows (k+1) i _ _ _ o r hr.2 (by simpa using h);have hk2:decide (k<k+(i+1))=true:=an;simp only[eD,hD,ou,hk2];rw[show k+1+i=k+(i+1) by omega] at this;exact this
theorem RunOK.n_mono {P:Program} {ops:Array Oper}:∀ (rows:List Row) (env:List V) (n:Nat) (L:Hp) (i j:Nat),RunOK P ops rows env n L->i<=j->ou rows n i<=ou rows n j
 |rows,env,n,L,i,0,_,h=>by obtain rfl:i=0:=aa
                           exact Z02 _
 |[],env,n,L,i,j+1,_,_=>by cases i<;>simp[ou]
 |(o,r)::rows,env,n,L,0,j+1,hr,_=>by
  simp only[ou];have h1:=hr.1.n_le;have h2:=RunOK.n_mono rows _ _ _ 0 j hr.2 aa
  have h3:ou rows r.n' 0=r.n':=by cases rows<;>rfl
  omega
 |(o,r)::rows,env,n,L,i+1,j+1,hr,h=>by
  simp only[ou];exact RunOK.n_mono rows _ _ _ i j hr.2 aa
def i9 (ops:Array Oper) (D:Nat->Bool):Prop:=∀ (j:Nat) o,ops[j]? =some o->D j=true->∀ e∈o.after.toList,Region.binds .any e=true->D e.on=true
def Hb (ops:Array Oper) (i j:Nat):Prop:=∀ D,i9 ops D->D j=true->D i=true
structure RegOK (ops:Array Oper) (rows:List Row):Prop where
 hops:rows.map (·.1)=ops.toList
 down:∀ (i:Nat) o,ops[i]? =some o->∀ e∈o.after.toList,Region.binds .any e=true->e.on<i
 slot:∀ (i j:Nat) oi ri oj rj t,i<j->rows[i]? =some (oi,ri)->rows[j]? =some (oj,rj)->
  (oi.dst=some t/\(oj.dst=some t\/t∈looks ops oj))\/(oj.dst=some t/\t∈looks ops oi)->Hb ops i j
 mem:∀ (i j:Nat) oi ri oj rj t,i<j->rows[i]? =some (oi,ri)->rows[j]? =some (oj,rj)->
  (t∈bw ri.wr/\(t∈bw rj.wr\/t∈rj.foot))\/(t∈bw rj.wr/\t∈ri.foot)->Hb ops i j
theorem Good.congr {φ:Ph} {M:Hp} {w:World} (h:Good φ M w) (e:∀ i,lk L i=lk M i):Good φ L w:=h.sub λi bl hi=>by rw[<-e i];exact hi
theorem Stp.congr {φ φ':Ph} {L' M':Hp} {w w':World} (h:Stp φ L w φ' M' w') (e:∀ i,lk L' i=lk M' i):Stp φ L w φ' L' w':=
 ⟨h.os,h.tape,h.output,h.size,h.keep,λj bl b hj=>h.fresh j bl b (by rw[<-e j];exact hj),h.zle,h.zfr⟩
def e9 (D:Nat->Bool) (i:Nat):Nat->Bool:=λj=>decide (j=i)||D j
section
variable {P:Program} {ops:Array Oper} {rows:List Row} {env:List V} {n:Nat} {L:Hp} {D:Nat->Bool} {i:Nat} {o:Oper} {r:R}
theorem Ih (ok:RegOK ops rows) (hc:i9 ops D) (hi:rows[i]? =some (o,r)) (hD:D i=false)
 (hpre:∀ j,Hb ops j i->j≠i->D j=true):eD (e9 D i) 0 rows env=a_ (eD D 0 rows env) o.dst r.v:=by
 apply Z2i;intro t;rw[kr];by_cases hd:o.dst=some t
 ·rw[if_pos hd,lV]
  have e:(eD (e9 D i) 0 rows env)[t]? =(eD (λj=>decide (j<0+i+1)) 0 rows env)[t]? :=by
   refine gB rows 0 env env rfl rfl λj oj rj hj hdst=>?_
   simp only[Z0c,e9]
   rcases Z3g j i with h|rfl|h
   ·rw[hpre j (ok.slot j i oj rj o r t h hj hi (.inl ⟨hdst,.inl hd⟩)) aa]
    simp;omega
   ·simp
   ·have:D j=false:=by
     cases e:D j with
     |false=>rfl
     |true=>rw[ok.slot i j o r oj rj t h hi hj (.inl ⟨hd,.inl hdst⟩) D hc e] at hD;cases hD
    rw[this];simp;omega
  rw[e,yq rows 0 i env o r hi,kr,if_pos hd,lV]
 ·rw[if_neg hd]
  refine gB rows 0 env env rfl rfl λj oj rj hj hdst=>?_
  simp only[Z0c,e9]
  have:j≠i:=by rintro rfl;rw[hi] at hj;cases hj;exact hd hdst
  simp[this]
theorem Cy (ok:RegOK ops rows) (hc:i9 ops D) (hi:rows[i]? =some (o,r)) (hD:D i=false)
 (hpre:∀ j,Hb ops j i->j≠i->D j=true) (t:Nat):lk (Ab.hD (e9 D i) 0 rows L) t=lk (aw (Ab.hD D 0 rows L) r.wr) t:=by
 by_cases hk:t∈bw r.wr
 ·have e:lk (Ab.hD (e9 D i) 0 rows L) t=lk (Ab.hD (λj=>decide (j<0+i+1)) 0 rows L) t:=by
   refine kK rows 0 L L rfl λj oj rj hj hkj=>?_
   simp only[Z0c,e9]
   rcases Z3g j i with h|rfl|h
   ·rw[hpre j (ok.mem j i oj rj o r t h hj hi (.inl ⟨hkj,.inl hk⟩)) aa]
    simp;omega
   ·simp
   ·have:D j=false:=by
     cases e:D j with
     |false=>rfl
     |true=>rw[ok.mem i j o r oj rj t h hi hj (.inl ⟨hk,.inl hkj⟩) D hc e] at hD;cases hD
    rw[this];simp;omega
  rw[e,yc rows 0 i L o r hi];exact g8 _ _ _ _ hk
 ·rw[bK _ _ _ hk]
  refine kK rows 0 L L rfl λj oj rj hj hkj=>?_
  simp only[Z0c,e9]
  have:j≠i:=by rintro rfl;rw[hi] at hj;cases hj;exact hk hkj
  simp[this]
theorem ud (ok:RegOK ops rows) (hc:i9 ops D) (hi:rows[i]? =some (o,r)) (hD:D i=false)
 (hpre:∀ j,Hb ops j i->j≠i->D j=true):∀ t∈looks ops o,(eD D 0 rows env).getD t .undef=(eD (λj=>decide (j<0+i)) 0 rows env).getD t .undef:=by
 intro t ht
 have e:(eD D 0 rows env)[t]? =(eD (λj=>decide (j<0+i)) 0 rows env)[t]? :=by
  refine gB rows 0 env env rfl rfl λj oj rj hj hdst=>?_
  simp only[Z0c]
  rcases Z3g j i with h|rfl|h
  ·rw[hpre j (ok.slot j i oj rj o r t h hj hi (.inl ⟨hdst,.inr ht⟩)) aa]
   simp[h]
  ·rw[hD];simp
  ·have:D j=false:=by
    cases e:D j with
    |false=>rfl
    |true=>rw[ok.slot i j o r oj rj t h hi hj (.inr ⟨hdst,ht⟩) D hc e] at hD;cases hD
   rw[this];simp;omega
 simp only[Z00,e]
theorem wE (ok:RegOK ops rows) (hc:i9 ops D) (hi:rows[i]? =some (o,r)) (hD:D i=false)
 (hpre:∀ j,Hb ops j i->j≠i->D j=true):∀ t∈r.foot,lk (Ab.hD D 0 rows L) t=lk (Ab.hD (λj=>decide (j<0+i)) 0 rows L) t:=by
 intro t ht
 refine kK rows 0 L L rfl λj oj rj hj hkj=>?_
 simp only[Z0c]
 rcases Z3g j i with h|rfl|h
 ·rw[hpre j (ok.mem j i oj rj o r t h hj hi (.inl ⟨hkj,.inr ht⟩)) aa]
  simp[h]
 ·rw[hD];simp
 ·have:D j=false:=by
   cases e:D j with
   |false=>rfl
   |true=>rw[ok.mem i j o r oj rj t h hi hj (.inr ⟨hkj,ht⟩) D hc e] at hD;cases hD
  rw[this];simp;omega
end
theorem It {D:Nat->Bool} {o:Oper} (hc:i9 ops D) (hi:ops[i]? =some o)
 (he:∀ e∈o.after.toList,Region.binds .any e=true->D e.on=true):∀ j,Hb ops j i->j≠i->D j=true:=by
 intro j hb hne;have:=hb (e9 D i) ?_ (by simp[e9])
 ·simpa [e9,hne] using this
 ·intro k ok hk hD e hem hbd
  simp only[e9,Z1h,decide_eq_true_eq] at hD |-
  rcases hD with rfl|hD
  ·rw[hi] at hk;cases hk;exact .inr (he e hem hbd)
  ·exact .inr (hc k ok hk hD e hem hbd)
def Inv (P:Program) (rows:List Row) (env:List V) (n:Nat) (L:Hp) (φ₀:Ph) (w₀:World) (D:Nat->Bool) (a:Act) (w:World):Prop:=
 ∃ φ,EnvR φ (eD D 0 rows env) a/\Good φ (hD D 0 rows L) w/\Stp φ₀ L w₀ φ (hD D 0 rows L) w/\
   (∀ i,i<rows.length->D i=false->∀ x,ou rows n i<=x->x<ou rows n (i+1)->φ x=none)/\
   (∀ x,x<n\/ou rows n rows.length<=x->φ x=φ₀ x)
def pM (listed:Array Bool):Nat->Bool:=λk=>listed.getD k false
theorem yz (listed:Array Bool) (i:Nat) (h:i<listed.size):pM (listed.setIfInBounds i true)=e9 (pM listed) i:=by
 funext k
 simp only[pM,e9,Z1x];by_cases hk:k=i
 ·subst hk;simp[h]
 ·simp[hk,Z3i (Z48 hk)]
theorem p_ {listed:Array Bool} (hs:listed.size=ops.size) (h:i∈Region.ready .any ops listed):
 ∃ o,ops[i]? =some o/\i<ops.size/\pM listed i=false/\∀ e∈o.after.toList,Region.binds .any e=true->pM listed e.on=true:=by
 simp only[Region.ready,Z2d,Z29,Z07,Z0v] at h;obtain⟨hi,hl,ha⟩:=h
 have ho:ops[i]? =some ops[i]:=by simp[hi]
 refine⟨ops[i],ho,hi,?_,?_⟩
 ·simp only[pM,Z1x] at hl |-
  have:i<listed.size:=aa;simp[this] at hl |-;exact hl
 ·intro e he hb
  simp only[ho,Z1j,Z22] at ha;rw[<-Array.all_toList] at ha;have:=Z0i.1 ha e he
  simpa [hb,pM] using this
theorem zC {listed:Array Bool} (hs:listed.size=ops.size) (down:∀ (i:Nat) o,ops[i]? =some o->∀ e∈o.after.toList,Region.binds .any e=true->e.on<i)
 (h:Region.ready .any ops listed=[]):∀ i,i<ops.size->pM listed i=true:=by
 intro i
 induction i using Nat.strongRecOn with
 |_ i ih=>
  intro hi
  cases hd:pM listed i with
  |true=>rfl
  |false=>
   exfalso
   have ho:ops[i]? =some ops[i]:=by simp[hi]
   have:i∈Region.ready .any ops listed:=by
    simp only[Region.ready,Z2d,Z29,Z07,Z0v];refine⟨hi,?_,?_⟩
    ·simp only[pM,Z1x] at hd |-
     have:i<listed.size:=aa;simp[this] at hd |-;exact hd
    ·simp only[ho,Z1j,Z22]
     rw[<-Array.all_toList]
     refine Z0i.2 λe he=>?_
     cases hb:Region.binds .any e with
     |false=>simp
     |true=>
      have hlt:=down i _ ho e he hb;have:=ih e.on hlt aa
      simpa [pM] using this
   rw[h] at this;cases this
theorem Ae {l:List Bool} (hi:i<l.length) (h:l[i]=false):(l.set i true).countP (! ·)+1=l.countP (! ·):=by
 induction l generalizing i with
 |nil=>simp at hi
 |cons b t ih=>
  cases i with
  |zero=>simp at h;subst h;simp[List.countP_cons]
  |succ i=>
   simp only[Z2j,List.countP_cons];have:=ih (i:=i) (by simpa using hi) (by simpa using h);omega
theorem xc {P:Program} {rows:List Row} {env:List V} {n:Nat} {φ₀:Ph} {w₀:World} {Q:Exit->Act->World->Prop}
 (ok:RegOK ops rows) (run:RunOK P ops rows env n L)
 (hQ:∀ a w,Inv P rows env n L φ₀ w₀ (λ_=>true) a w->Q .normal a w):
 ∀ (fuel:Nat) (listed:Array Bool) (a:Act) (w:World),listed.size=ops.size->listed.toList.countP (! ·)=fuel->i9 ops (pM listed)->Inv P rows env n L φ₀ w₀ (pM listed) a w->
   wpAny P .any ops Q fuel listed a w:=by
 have hlen:rows.length=ops.size:=by rw[<-Z28,<-ok.hops,Z0z]
 have fin:∀ (listed:Array Bool) a w,listed.size=ops.size->Inv P rows env n L φ₀ w₀ (pM listed) a w->Region.ready .any ops listed=[]->Q .normal a w:=by
  intro listed a w hs hinv hr;refine hQ a w ?_;have hall:=zC hs ok.down hr;obtain⟨φ,h1,h2,h3,h4,h5⟩:=hinv
  have e1:eD (pM listed) 0 rows env=eD (λ_=>true) 0 rows env:=by
   apply Z2i;intro t
   refine gB rows 0 env env rfl rfl λj oj rj hj _=>?_
   have:j<rows.length:=by
    rcases Z0a j rows.length with h|h
    ·exact h
    ·simp[Z0b h] at hj
   simp[hall j aa]
  have e2:∀ t,lk (hD (λ_=>true) 0 rows L) t=lk (hD (pM listed) 0 rows L) t:=λt=>by
   refine (kK rows 0 L L rfl λj oj rj hj _=>?_).symm
   have:j<rows.length:=by
    rcases Z0a j rows.length with h|h
    ·exact h
    ·simp[Z0b h] at hj
   simp[hall j aa]
  exact⟨φ,e1▸h1,h2.congr e2,h3.congr e2,λi _ h=>by simp at h,h5⟩
 intro fuel
 induction fuel with
 |zero=>
  intro listed a w hs hc _ hinv
  have hr:Region.ready .any ops listed=[]:=by
   cases hr:Region.ready .any ops listed with
   |nil=>rfl
   |cons i t=>
    exfalso;obtain⟨o,ho,hi,hd,_⟩:=p_ hs (by rw[hr];exact .head _)
    have hz:∀ x∈listed.toList,x=true:=by
     intro x hx;have:=List.countP_eq_zero.1 hc x hx
     simpa using this
    have:listed[i]'aa=true:=hz _ an;have hi':i<listed.size:=aa;simp[pM,Z1x,hi',this] at hd
  exact⟨hr,fin listed a w hs hinv hr⟩
 |succ fuel ih=>
  intro listed a w hs hc hcl hinv;refine⟨fin listed a w hs hinv,λi hi=>?_⟩;obtain⟨o,ho,hlt,hd,hedges⟩:=p_ hs hi
  have hrow:∃ r,rows[i]? =some (o,r):=by
   have h1:(rows.map (·.1))[i]? =some o:=by rw[ok.hops];simpa using ho
   rw[Z0t] at h1
   cases hx:rows[i]? with
   |none=>rw[hx] at h1;cases h1
   |some x=>rw[hx] at h1;simp at h1;subst h1;exact⟨x.2,rfl⟩
  obtain⟨r,hr⟩:=hrow;have hpre:=It hcl ho hedges;obtain⟨hstep,hn'⟩:=run.at rows 0 i env n L o r hr;have hi':i<rows.length:=aa;obtain⟨φ,h1,h2,h3,h4,h5⟩:=hinv;refine hstep.wpOp ho (ud ok hcl hr hd hpre) (wE ok hcl hr hd hpre) h1 h2 (λx hx hx'=>h4 i hi' hd x hx (hn'▸hx')) ?_;intro φ' a' w' g1 g2 g3 g4;have hli:i<listed.size:=aa
  have hdl:listed[i]=false:=by simpa [pM,Z1x,hli] using hd
  refine ih _ a' w' (by simpa using hs) ?_ ?_ ?_
  ·have:=Ae (l:=listed.toList) (i:=i) (by simpa using hli) (by simpa using hdl)
   simp only[Array.toList_setIfInBounds];omega
  ·rw[yz _ _ hli]
   intro k ok' hk hD e hem hbd;simp only[e9,Z1h,decide_eq_true_eq] at hD |-
   rcases hD with rfl|hD
   ·rw[ho] at hk;cases hk;exact .inr (hedges e hem hbd)
   ·exact .inr (hcl k ok' hk hD e hem hbd)
  ·rw[yz _ _ hli]
   refine⟨φ',Ih ok hcl hr hd hpre▸g1,g2.congr (Cy ok hcl hr hd hpre),(h3.trans g3).congr (Cy ok hcl hr hd hpre),?_,?_⟩
   ·intro k hk hDk x hx hx'
    simp only[e9,Z2y,decide_eq_false_iff_not] at hDk;rw[g4 x ?_]
    ·exact h4 k hk hDk.2 x hx hx'
    ·rintro⟨q1,q2⟩
     rw[hn'] at q2
     rcases Z3g k i with h|h|h
     ·have:=run.n_mono rows env n L (k+1) i aa;omega
     ·exact hDk.1 h
     ·have:=run.n_mono rows env n L (i+1) k aa;omega
   ·intro x hx
    rw[g4 x ?_]
    ·exact h5 x hx
    ·rintro⟨q1,q2⟩
     rw[hn'] at q2;have m1:=run.n_mono rows env n L 0 i aa;have m2:=run.n_mono rows env n L (i+1) rows.length aa
     have m3:ou rows n 0=n:=by cases rows<;>rfl
     omega
end
section
variable {n id:Nat} {φ:Ph} {w:World} {c:Code} {L' L:Hp} {rows:List Row} {v:Value}
abbrev Post:=Exit->List V->Nat->Hp->Prop
def Ex (P:Program) (b:Nat) (c:Code) (env:List V) (n:Nat) (L:Hp) (R:Post):Prop:=
 ∀ (φ:Ph) (a:Act) (w:World),EnvR φ env a->Good φ L w->(∀ i,n<=i->φ i=none)->b<=n->
   c.wp P (λx a' w'=>∃ φ' env' n' L',R x env' n' L'/\EnvR φ' env' a'/\Good φ' L' w'/\(∀ i,n'<=i->φ' i=none)/\b<=n'/\Stp φ L w φ' L' w'/\(∀ i,i<b->φ' i=φ i)) a w
section
variable {P:Program} {b:Nat} {env:List V} {n:Nat} {L:Hp} {R R':Post}
theorem Ex.mono (h:Ex P b c env n L R) (hr:∀ x e m M,R x e m M->R' x e m M):Ex P b c env n L R':=by
 intro φ a w h1 h2 h3 h4;refine wp_mono (h φ a w h1 h2 h3 h4) ?_;rintro x a' w' ⟨φ',e,m,M,hR,rest⟩;exact⟨φ',e,m,M,hr _ _ _ _ hR,rest⟩
theorem Ex.here {x:Exit} (hc:∀ (Q:Exit->Act->World->Prop) a w,Q x a w->c.wp P Q a w) (h:R x env n L):Ex P b c env n L R:=by
 intro φ a w h1 h2 h3 h4;exact hc _ a w ⟨φ,env,n,L,h,h1,h2,h3,h4,Stp.refl _ _ _,λ_ _=>rfl⟩
theorem Ex.skip (h:R .normal env n L):Ex P b .skip env n L R:=Ex.here (λ_ _ _ h=>wp_skip h) h
theorem Ex.ret (h:R .ret env n L):Ex P b .ret env n L R:=Ex.here (λ_ _ _ h=>wp_ret h) h
theorem Ex.exit (h:R (.exit id) env n L):Ex P b (.exit id) env n L R:=Ex.here (λ_ _ _ h=>wp_exit h) h
def Then (P:Program) (b:Nat) (y:Code) (R:Post):Post
 | .normal,e,m,M=>Ex P b y e m M R
 |x,e,m,M=>R x e m M
theorem Ex.seq {x y:Code} (h:Ex P b x env n L (Then P b y R)):Ex P b (.seq x y) env n L R:=by
 intro φ a w h1 h2 h3 h4;refine wp_seq (wp_mono (h φ a w h1 h2 h3 h4) ?_);rintro e a' w' ⟨φ',e',m,M,hR,g1,g2,g3,g4,g5,g6⟩
 cases e with
 |normal=>
  simp only[Exit.then];refine wp_mono (hR φ' a' w' g1 g2 g3 g4) ?_;rintro x a'' w'' ⟨φ'',e'',m',M',hR',k1,k2,k3,k4,k5,k6⟩;exact⟨φ'',e'',m',M',hR',k1,k2,k3,k4,g5.trans k5,λi hi=>(k6 i hi).trans (g6 i hi)⟩
 |_=>exact⟨φ',e',m,M,hR,g1,g2,g3,g4,g5,g6⟩
theorem Ex.cond {c:Operand} {x y:Code} {t:Bool} (hc:ev env c=.s (.bool t)) (h:Ex P b (match t with|true=>x|false=>y) env n L R):Ex P b (.cond c x y) env n L R:=by
 intro φ a w h1 h2 h3 h4;have:=h1.ev c;rw[hc] at this;simp only[Vr,Sr] at this;refine wp_cond this ?_;have h':=h φ a w h1 h2 h3 h4
 cases t<;>exact h'
def InBlock (id:Nat) (R:Post):Post
 | .exit id',e,m,M=>match Nat.beq id' id with|true=>R .normal e m M|false=>R (.exit id') e m M
 |x,e,m,M=>R x e m M
theorem Ex.block (h:Ex P b c env n L (InBlock id R)):Ex P b (.block id c) env n L R:=by
 intro φ a w h1 h2 h3 h4;refine wp_block (wp_mono (h φ a w h1 h2 h3 h4) ?_);rintro e a' w' ⟨φ',e',m,M,hR,g⟩
 cases e with
 |exit id'=>
  simp only[Exit.inBlock];by_cases hi:id'=id
  ·subst hi
   rw[if_pos rfl];simp only[InBlock,Z2n] at hR;exact⟨φ',e',m,M,hR,g⟩
  ·rw[if_neg hi]
   simp only[InBlock,l9 hi] at hR;exact⟨φ',e',m,M,hR,g⟩
 |_=>exact⟨φ',e',m,M,hR,g⟩
theorem Inv.zero {a:Act} (h1:EnvR φ env a) (h2:Good φ L w) (h3:∀ i,n<=i->φ i=none) (mono:∀ i,n<=ou rows n i):
 Inv P rows env n L φ w (λ_=>false) a w:=by
 refine⟨φ,?_,?_,?_,?_,λ_ _=>rfl⟩
 ·rw[kX _ _ _ (λ_ _=>rfl)];exact h1
 ·rw[ji _ _ _ (λ_ _=>rfl)];exact h2
 ·rw[ji _ _ _ (λ_ _=>rfl)];exact Stp.refl _ _ _
 ·intro i _ _ x hx _;exact h3 x (Z1z (mono i) hx)
theorem wz {d:Nat} (h:Good φ L w):Good φ L {w with drawn:=d}:=⟨h.hr,h.inj,h.fz,h.gz⟩
theorem za {φ':Ph} {L':Hp} {w':World} {d:Nat} (h:Stp φ L {w with drawn:=d} φ' L' w'):Stp φ L w φ' L' w':=⟨h.os,h.tape,h.output,h.size,h.keep,h.fresh,h.zle,h.zfr⟩
def xQ (rows:List Row) (env:List V) (n:Nat) (L:Hp) (R:Post):Prop:=R .normal (eD (λ_=>true) 0 rows env) (ou rows n rows.length) (hD (λ_=>true) 0 rows L)
theorem Ex.regionDraw (hm:P.follows .mixedOrders=true) {ops:Array Oper} (ok:RegOK ops rows) (run:RunOK P ops rows env n L) (h:xQ rows env n L R):
 Ex P b (.region id ops true) env n L R:=by
 intro φ a w h1 h2 h3 h4
 have mono:∀ i,n<=ou rows n i:=λi=>by
  have:=run.n_mono rows env n L 0 i aa
  have m3:ou rows n 0=n:=by cases rows<;>rfl
  omega
 refine wp_region_any hm (xc (φ₀:=φ) (w₀:={w with drawn:=w.drawn+1}) ok run ?_ ops.size _ a _ an ?_ ?_ ?_)
 ·rintro a' w' ⟨φ',g1,g2,g3,_,g5⟩
  refine⟨φ',_,_,_,h,g1,g2,λi hi=>?_,Z1z h4 (mono _),za g3,λi hi=>g5 i (.inl aa)⟩;rw[g5 i (.inr hi)];exact h3 i (Z1z (mono _) hi)
 ·rw[Array.toList_replicate];simp[List.countP_replicate]
 ·intro j o _ hD;simp[pM,Z1x,Array.getElem?_replicate] at hD
  split at hD<;>simp at hD
 ·have:pM (Array.replicate ops.size false)=λ_=>false:=by
   funext k;simp only[pM,Z1x,Array.getElem?_replicate];split<;>rfl
  rw[this];exact Inv.zero h1 (wz h2) h3 mono
theorem tA {ops:Array Oper} {Q:Exit->Act->World->Prop} {φ₀:Ph} {w₀:World} {L₀:Hp} {n₀:Nat}:∀ (rows:List Row) (k:Nat) (env:List V) (n:Nat) (L:Hp) (φ:Ph) (a:Act) (w:World),
 (∀ j,ops[k+j]? =(rows[j]?).map (·.1))->RunOK P ops rows env n L->EnvR φ env a->Good φ L w->(∀ i,n<=i->φ i=none)->n₀<=n->Stp φ₀ L₀ w₀ φ L w->(∀ i,i<n₀->φ i=φ₀ i)->
 (∀ φ' a' w',EnvR φ' (eD (λ_=>true) k rows env) a'->Good φ' (hD (λ_=>true) k rows L) w'->(∀ i,ou rows n rows.length<=i->φ' i=none)->
   n₀<=ou rows n rows.length->Stp φ₀ L₀ w₀ φ' (hD (λ_=>true) k rows L) w'->(∀ i,i<n₀->φ' i=φ₀ i)->Q .normal a' w')->
 wpOps P ops Q (List.range' k rows.length) a w
 |[],k,env,n,L,φ,a,w,_,_,h1,h2,h3,h4,h5,h6,hQ=>hQ φ a w h1 h2 h3 h4 h5 h6
 |(o,r)::rows,k,env,n,L,φ,a,w,ho,hr,h1,h2,h3,h4,h5,h6,hQ=>by
  rw[Z04,Z31,wpOps_cons];have hle:=hr.1.n_le;refine hr.1.wpOp (i:=k) (by simpa using ho 0) (λ_ _=>rfl) (λ_ _=>rfl) h1 h2 (λi hi _=>h3 i hi) ?_;intro φ' a' w' g1 g2 g3 g4;refine tA rows (k+1) _ _ _ φ' a' w' (λj=>by rw[show k+1+j=k+(j+1) by omega];simpa using ho (j+1)) hr.2 g1 g2 ?_ aa (h5.trans g3) ?_ hQ
  ·intro i hi
   rw[g4 i aa];exact h3 i aa
  ·intro i hi
   rw[g4 i aa];exact h6 i hi
theorem Ex.regionText {ops:Array Oper} (hops:rows.map (·.1)=ops.toList) (run:RunOK P ops rows env n L) (h:xQ rows env n L R):
 Ex P b (.region id ops false) env n L R:=by
 intro φ a w h1 h2 h3 h4
 have hlen:rows.length=ops.size:=by rw[<-Z28,<-hops,Z0z]
 refine wp_region ?_;rw[Z4g,<-hlen];refine tA (n₀:=b) rows 0 env n L φ a w (λj=>by rw[Z0c,<-Z4z,<-hops,Z0t]) run h1 h2 h3 h4 (Stp.refl _ _ _) (λ_ _=>rfl) ?_;intro φ' a' w' g1 g2 g3 g4 g5 g6;exact⟨φ',_,_,_,h,g1,g2,g3,g4,g5,g6⟩
end
def m5 (n:Nat):S->Bool
 | .ptr (some (i,_))=>Nat.blt i n
 | .slc (some (i,_)) _ _=>Nat.blt i n
 | .sla i g _=>Nat.blt i n&&Nat.blt g n
 | .map (some i)=>Nat.blt i n
 | .itr r m=>Nat.blt r n&&Nat.blt m n
 | .clo _ ps=>ps.all λp=>Nat.blt p.1 n
 | .opq _ t _=>t.lt n
 | .row i g _=>Nat.blt i n&&Nat.blt g n
 |_=>true
def Jk (n:Nat):U->Bool
 | .s x=>m5 n x
 | .agg l=>l.all (m5 n)
def fp (n:Nat):V->Bool
 | .s x=>m5 n x
 | .agg l=>l.all (m5 n)
 | .tup l=>l.all (Jk n)
 | .w i g _ _ _=>Nat.blt i n&&Nat.blt g n
 |_=>true
def okG (n:Nat):Option (Nat×Nat)->Bool
 |some (g,_)=>Nat.blt g n
 |none=>true
def Jm (n:Nat) (bl:Bl):Bool:=okG n bl.gh&&match bl.flat with|true=>true|false=>bl.cells.all (m5 n)
def eV (n:Nat):Hp->Bool
 |[]=>true
 |(i,some bl)::t=>Nat.blt i n&&Jm n bl&&eV n t
 |(_,none)::t=>eV n t
def aF (n:Nat) (φ:Ph):Ph:=⟨λi=>if i<n then φ i else none,φ.z⟩
theorem aU {i:Nat}:Nat.blt i n=true↔i<n:=by
 unfold Nat.blt;rw[Nat.ble_eq];omega
theorem Tm.ev_cut {φ:Ph} {n:Nat}:∀ {t:Tm},t.lt n=true->t.ev (aF n φ)=t.ev φ
 | .v i,h=>by simp only[Tm.ev,aF,if_pos (aU.1 h)]
 | .c _,_=>rfl
 | .bin o k a b,h=>by
   simp only[Tm.lt,Z07] at h;simp only[Tm.ev,Tm.ev_cut h.1,Tm.ev_cut h.2]
theorem tP {φ:Ph} {n:Nat}:∀ {ps:List (Nat×Nat)} {vs:List Value},All2 (PtrR φ) ps vs->(ps.all λp=>Nat.blt p.1 n)=true->All2 (PtrR (aF n φ)) ps vs
 |[],[],_,_=>trivial
 |p::ps,v::vs,h,ok=>by
  simp only[Z1b,Z07] at ok;obtain⟨b,hb,hv⟩:=h.1;exact⟨⟨b,by simp only[aF,if_pos (aU.1 ok.1)];exact hb,hv⟩,tP h.2 ok.2⟩
 |[],_::_,h,_=>h.elim
 |_::_,[],h,_=>h.elim
theorem Sr.cut {x:S} (h:Sr φ x v) (ok:m5 n x=true):Sr (aF n φ) x v:=by
 cases x with
 |unk|bool|int|str|junk|emp|emq|fn|gp|frz|fpt|cst=>exact h
 |row i g m=>
  simp only[m5,Z07] at ok
  rcases h with h|⟨h0,b,k,hb,hg,hv⟩
  ·exact .inl h
  ·exact .inr ⟨h0,b,k,by simp only[aF,if_pos (aU.1 ok.1)];exact hb,by simp only[aF,if_pos (aU.1 ok.2)];exact hg,hv⟩
 |map a=>
  rcases a with _|i
  ·exact h
  ·obtain⟨b,hb,hv⟩:=h;exact⟨b,by simp only[aF,if_pos (aU.1 ok)];exact hb,hv⟩
 |itr r m=>
  simp only[m5,Z07] at ok;obtain⟨b,hb,hv⟩:=h;exact⟨b,by simp only[aF,if_pos (aU.1 ok.1)];exact hb,hv⟩
 |clo f ps=>obtain⟨vs,hv,ha⟩:=h;exact⟨vs,hv,tP ha ok⟩
 |opq k t K=>obtain⟨z,hb,hv⟩:=h;exact⟨z,(Tm.ev_cut ok).trans hb,hv⟩
 |sla i g m=>
  simp only[m5,Z07] at ok;obtain⟨b,k,hb,hg,hv⟩:=h;exact⟨b,k,by simp only[aF,if_pos (aU.1 ok.1)];exact hb,by simp only[aF,if_pos (aU.1 ok.2)];exact hg,hv⟩
 |ptr a=>
  rcases a with _|⟨i,o⟩
  ·exact h
  ·obtain⟨b,hb,hv⟩:=h;exact⟨b,by simp only[aF,if_pos (aU.1 ok)];exact hb,hv⟩
 |slc a m c=>
  rcases a with _|⟨i,o⟩
  ·exact h
  ·obtain⟨b,k,hb,hv⟩:=h;exact⟨b,k,by simp only[aF,if_pos (aU.1 ok)];exact hb,hv⟩
theorem ld {φ:Ph} {n:Nat}:∀ {l:List S} {xs:List Value},All2 (Sr φ) l xs->l.all (m5 n)=true->All2 (Sr (aF n φ)) l xs
 |[],[],_,_=>trivial
 |_::_,_::_,h,ok=>by
  simp only[Z1b,Z07] at ok;exact⟨h.1.cut ok.1,ld h.2 ok.2⟩
 |[],_::_,h,_=>h.elim
 |_::_,[],h,_=>h.elim
theorem Ur.cut {x:U} (h:Ur φ x v) (ok:Jk n x=true):Ur (aF n φ) x v:=by
 cases x with
 |s x=>exact Sr.cut h ok
 |agg l=>obtain⟨xs,hv,ha⟩:=h;exact⟨xs,hv,ld ha ok⟩
theorem qB {φ:Ph} {n:Nat}:∀ {l:List U} {xs:List Value},All2 (Ur φ) l xs->l.all (Jk n)=true->All2 (Ur (aF n φ)) l xs
 |[],[],_,_=>trivial
 |_::_,_::_,h,ok=>by
  simp only[Z1b,Z07] at ok;exact⟨h.1.cut ok.1,qB h.2 ok.2⟩
 |[],_::_,h,_=>h.elim
 |_::_,[],h,_=>h.elim
theorem Vr.cut {x:V} (h:Vr φ x v) (ok:fp n x=true):Vr (aF n φ) x v:=by
 cases x with
 |any=>trivial
 |undef=>exact h
 |s x=>exact Sr.cut h ok
 |agg l=>obtain⟨xs,hv,ha⟩:=h;exact⟨xs,hv,ld ha ok⟩
 |tup l=>obtain⟨xs,hv,ha⟩:=h;exact⟨xs,hv,qB ha ok⟩
 |w i g sz j m=>
  simp only[fp,Z07] at ok;obtain⟨b,k,hb,hg,hv⟩:=h;exact⟨b,k,by simp only[aF,if_pos (aU.1 ok.1)];exact hb,by simp only[aF,if_pos (aU.1 ok.2)];exact hg,hv⟩
theorem jo {φ:Ph} {n:Nat}:∀ {l:List V} {xs:List Value},All2 (Vr φ) l xs->l.all (fp n)=true->All2 (Vr (aF n φ)) l xs
 |[],[],_,_=>trivial
 |_::_,_::_,h,ok=>by
  simp only[Z1b,Z07] at ok;exact⟨h.1.cut ok.1,jo h.2 ok.2⟩
 |[],_::_,h,_=>h.elim
 |_::_,[],h,_=>h.elim
theorem cN {n:Nat}:∀ {L:Hp} {i:Nat} {bl:Bl},eV n L=true->lk L i=some bl->i<n/\Jm n bl=true
 |[],_,_,_,h=>by simp[lk] at h
 |(j,c)::t,i,bl,ok,h=>by
  rw[bd] at h
  cases c with
  |none=>
   simp only[eV] at ok;split at h
   ·cases h
   ·exact cN ok h
  |some c=>
   simp only[eV,Z07] at ok;split at h
   ·rename_i e;subst e;cases h;exact⟨aU.1 ok.1.1,ok.1.2⟩
   ·exact cN ok.2 h
theorem BlAt.cut {b:Nat×Nat} {bl:Bl} (h:BlAt φ w b bl) (ok:Jm n bl=true):BlAt (aF n φ) w b bl:=by
 obtain⟨pre,xs,rest,fr,h1,hp,h2,h3,h4,h5⟩:=h;unfold Jm at ok;simp only[Z07] at ok;obtain⟨okg,ok⟩:=ok;refine⟨pre,xs,rest,fr,h1,hp,?_,h3,h4,λg z e=>?_,h5.2⟩
 rotate_left
 ·obtain⟨k,hk,hz⟩:=h5.1 g z e
  rw[e] at okg;exact⟨k,by simp only[aF,if_pos (aU.1 okg)];exact hk,hz⟩
 unfold Bl.ph at h2 |-
 cases hf:bl.flat with
 |true=>simp only[hf] at h2 |-;exact h2
 |false=>simp only[hf] at h2 ok |-;exact ld h2 ok
theorem Good.cut (h:Good φ L w) (ok:eV n L=true):Good (aF n φ) L w:=by
 refine⟨λi bl hi=>?_,λi j bl bl' b b' hi hj hb hb'=>?_,λb l hb=>⟨(h.fz b l hb).1,?_⟩,h.gz⟩
 rotate_left 2
 ·rintro⟨i,bl,c,hi,hc,hcb,hro⟩
  simp only[aF] at hc;split at hc
  ·exact (h.fz b l hb).2 ⟨i,bl,c,hi,hc,hcb,hro⟩
  ·cases hc
 ·obtain⟨b,hb,hat⟩:=h.hr i bl hi
  obtain⟨hlt,hok⟩:=cN ok hi;exact⟨b,by simp only[aF,if_pos hlt];exact hb,hat.cut hok⟩
 ·have h1:=(cN ok hi).1
  have h2:=(cN ok hj).1;simp only[aF,if_pos h1] at hb;simp only[aF,if_pos h2] at hb';exact h.inj i j bl bl' b b' hi hj hb hb'
def Ek (keep:List Nat):Nat->List V->List V
 |_,[]=>[]
 |i,v::t=>(match keep.elem i with|true=>v|false=> .any)::Ek keep (i+1) t
theorem AF {φ:Ph} {keep:List Nat}:∀ {i:Nat} {env:List V} {xs:List Value},All2 (Vr φ) env xs->All2 (Vr φ) (Ek keep i env) xs
 |_,[],[],_=>trivial
 |i,v::t,x::xs,h=>by
  simp only[Ek];refine⟨?_,AF h.2⟩;cases keep.elem i
  ·trivial
  ·exact h.1
 |_,[],_::_,h=>h.elim
 |_,_::_,[],h=>h.elim
structure Wk (n:Nat) (env:List V) (L:Hp) (env':List V) (L':Hp):Prop where
 e:∀ φ xs,All2 (Vr φ) env xs->All2 (Vr φ) env' xs
 l:∀ φ w,Good φ L w->Good φ L' w
 s:∀ i bl,lk L' i=some bl->∃ bl',lk L i=some bl'/\(bl'.ro=true->bl.ro=true)
 okE:env'.all (fp n)=true
 okL:eV n L'=true
theorem Wk.of {env:List V} {env':List V} (keep:List Nat) (he:Ek keep 0 env=env') (hl:vv L' L) (o1:env'.all (fp n)=true) (o2:eV n L'=true):Wk n env L env' L':=
 ⟨λφ xs h=>he▸AF h,λ_ _ h=>h.sub hl,λi bl h=>⟨bl,hl i bl h,id⟩,o1,o2⟩
end
section
variable {φ:Ph} {w:World} {P:Program} {tbl:List Nat} {M L0 L0':Hp} {v:V} {r:Nat->Nat} {b:Nat×Nat} {bl:Bl} {new i n0' n n':Nat} {f:FuncId} {env:List V} {fn:Func}
def mJ (r:Nat->Nat):S->S
 | .ptr (some (i,o))=> .ptr (some (r i,o))
 | .slc (some (i,o)) n c=> .slc (some (r i,o)) n c
 | .sla i g n=> .sla (r i) (r g) n
 | .map (some i)=> .map (some (r i))
 | .itr i m=> .itr (r i) (r m)
 | .clo f ps=> .clo f (ps.map λp=>(r p.1,p.2))
 | .opq k t K=> .opq k (t.ren r) K
 | .row i g n=> .row (r i) (r g) n
 |x=>x
def tI (r:Nat->Nat):U->U
 | .s x=> .s (mJ r x)
 | .agg l=> .agg (l.map (mJ r))
def bW (r:Nat->Nat):V->V
 | .s x=> .s (mJ r x)
 | .agg l=> .agg (l.map (mJ r))
 | .tup l=> .tup (l.map (tI r))
 | .w i g sz k m=> .w (r i) (r g) sz k m
 |x=>x
def EN (r:Nat->Nat):Option (Nat×Nat)->Option (Nat×Nat)
 |some (g,z)=>some (r g,z)
 |none=>none
def ed (r:Nat->Nat) (bl:Bl):Bl:=match bl.flat with|true=>{bl with gh:=EN r bl.gh}|false=>{bl with cells:=bl.cells.map (mJ r),gh:=EN r bl.gh}
theorem cM (r:Nat->Nat) (bl:Bl):(ed r bl).ro=bl.ro:=by unfold ed;split<;>rfl
theorem xk {x:S} {v:Value}:Sr φ (mJ r x) v↔Sr (φ.ren r) x v:=by
 cases x with
 |unk|bool|int|str|sla|junk|emp|emq|fn|gp|itr|frz|fpt|row|cst=>exact Z44
 |clo f ps=>
  have key:∀ {ps:List (Nat×Nat)} {vs:List Value},All2 (PtrR φ) (ps.map λp=>(r p.1,p.2)) vs↔All2 (PtrR (φ.ren r)) ps vs:=by
   intro ps
   induction ps with
   |nil=>intro vs;cases vs<;>exact Z44
   |cons p t ih=>intro vs;cases vs with
    |nil=>exact Z44
    |cons v vs=>exact and_congr Z44 ih
  simp only[mJ,Sr,key]
 |opq k t K=>simp only[mJ,Sr,Tm.ev_ren]
 |map a=>rcases a with _|i<;>exact Z44
 |ptr a=>rcases a with _|⟨i,o⟩<;>exact Z44
 |slc a n c=>rcases a with _|⟨i,o⟩<;>exact Z44
theorem lc {φ:Ph} {r:Nat->Nat}:∀ {l:List S} {xs:List Value},All2 (Sr φ) (l.map (mJ r)) xs↔All2 (Sr (φ.ren r)) l xs
 |[],[]=>Z44
 |_::_,_::_=>and_congr xk lc
 |[],_::_=>Z44
 |_::_,[]=>Z44
theorem IH {x:U} {v:Value}:Ur φ (tI r x) v↔Ur (φ.ren r) x v:=by
 cases x with
 |s x=>exact xk
 |agg l=>simp only[Ur,tI,lc]
theorem qA {φ:Ph} {r:Nat->Nat}:∀ {l:List U} {xs:List Value},All2 (Ur φ) (l.map (tI r)) xs↔All2 (Ur (φ.ren r)) l xs
 |[],[]=>Z44
 |_::_,_::_=>and_congr IH qA
 |[],_::_=>Z44
 |_::_,[]=>Z44
theorem sR {x:V} {v:Value}:Vr φ (bW r x) v↔Vr (φ.ren r) x v:=by
 cases x with
 |any|undef=>exact Z44
 |s x=>exact xk
 |agg l=>simp only[Vr,bW,lc]
 |tup l=>simp only[Vr,bW,qA]
 |w=>exact Z44
theorem lh:BlAt φ w b (ed r bl)↔BlAt (φ.ren r) w b bl:=by
 have hg:∀ (m:Nat),(∀ g z,EN r bl.gh=some (g,z)->∃ k,φ g=some (k,0)/\k*z<=m)↔(∀ g z,bl.gh=some (g,z)->∃ k,φ (r g)=some (k,0)/\k*z<=m):=by
  intro m;constructor
  ·intro h g z e
   exact h (r g) z (by rw[e];rfl)
  ·intro h g z e
   cases hb:bl.gh with
   |none=>rw[hb] at e;cases e
   |some p=>
    obtain⟨g0,z0⟩:=p;rw[hb] at e;simp only[EN,Z06,Z0j] at e;obtain⟨rfl,rfl⟩:=e;exact h g0 z0 hb
 unfold ed
 cases hf:bl.flat with
 |true=>simp only[BlAt,Bl.ph,hf,hg]
 |false=>simp only[BlAt,Bl.ph,hf,lc,hg]
theorem BlAt.weaken (h:BlAt φ w b bl) (ro:Bool) (hr:bl.ro=true->ro=true):BlAt φ w b {bl with ro:=ro}:=by
 obtain⟨pre,xs,rest,fr,h1,hp,h2,h3,h4,h5⟩:=h;exact⟨pre,xs,rest,fr,h1,hp,h2,h3,λe=>h4 (by cases hb:bl.ro with|false=>rfl|true=>have:=hr hb;simp at e;rw[e] at this;cases this),h5⟩
def SC (P:Program) (f:FuncId) (args:List V) (n:Nat) (L:Hp) (v:V) (n':Nat) (L':Hp):Prop:=
 ∀ (φ:Ph) (xs:List Value) (w:World),All2 (Vr φ) args xs->Good φ L w->(∀ i,n<=i->φ i=none)->
   Calls P f xs.toArray w λe w'=>∃ φ' x,e=.returned x/\Vr φ' v x/\Good φ' L' w'/\(∀ i,n'<=i->φ' i=none)/\Stp φ L w φ' L' w'/\n<=n'/\(∀ i,i<n->φ' i=φ i)
def rn (tbl:List Nat) (new:Nat) (i:Nat):Nat:=match Nat.blt i tbl.length with|true=>tbl.getD i 0|false=>new+(i-tbl.length)
theorem eH (h:i<tbl.length):rn tbl new i=tbl.getD i 0:=by unfold rn;rw[aU.2 h]
theorem Jb (h: ¬i<tbl.length):rn tbl new i=new+(i-tbl.length):=by
 unfold rn
 have:Nat.blt i tbl.length=false:=by
  cases e:Nat.blt i tbl.length with
  |false=>rfl
  |true=>exact absurd (aU.1 e) h
 rw[this]
structure Fits (tbl:List Nat) (new n0':Nat) (L0:Hp) (M:Hp):Prop where
 old:∀ i,i<tbl.length-> ¬(new<=tbl.getD i 0/\tbl.getD i 0<new+(n0'-tbl.length))
 fit:∀ i bl0,lk L0 i=some bl0->i<tbl.length/\∃ bl',lk M (tbl.getD i 0)=some bl'/\{ed (rn tbl new) bl0 with ro:=bl'.ro}=bl'/\(bl'.ro=true->bl0.ro=true)
 ali:∀ i j bl bl',lk L0 i=some bl->lk L0 j=some bl'->tbl.getD i 0=tbl.getD j 0->i=j\/(bl.ro=true/\bl'.ro=true)
def vy (tbl:List Nat) (new:Nat) (L0 L0' M M':Hp):Prop:=
 ∀ x bl,lk M' x=some bl->
   (∃ i bl0,rn tbl new i=x/\lk L0' i=some bl0/\bl=ed (rn tbl new) bl0/\(tbl.length<=i\/∃ b,lk L0 i=some b/\b.ro=false))\/
   (lk M x=some bl/\∀ i,i<tbl.length->tbl.getD i 0=x->∀ b,lk L0 i=some b->b.ro=true)
theorem Bx {φc':Ph} {M':Hp} {w':World} (hn:tbl.length<=n0') (hM:Good φ M w) (ft:Fits tbl new n0' L0 M)
 (h':Good φc' L0' w') (st:Stp (aF tbl.length (φ.ren (rn tbl new))) L0 w φc' L0' w') (hag:∀ i,i<tbl.length->φc' i=(aF tbl.length (φ.ren (rn tbl new))) i)
 (hnone:∀ i,n0'<=i->φc' i=none) (hfree:∀ i,new<=i->i<new+(n0'-tbl.length)->φ i=none) (af:vy tbl new L0 L0' M M'):
 ∃ φ':Ph,(Ph.le φc' (φ'.ren (rn tbl new)))/\Good φ' M' w'/\Stp φ M w φ' M' w'/\(∀ i,¬(new<=i/\i<new+(n0'-tbl.length))->φ' i=φ i):=by
 let φ':Ph:=⟨λx=>if new<=x/\x<new+(n0'-tbl.length) then φc' (x-new+tbl.length) else φ x,φc'.z⟩
 have e1:∀ i b,φc' i=some b->φ' (rn tbl new i)=some b:=by
  intro i b hb;by_cases hi:i<tbl.length
  ·have h:=hag i hi
   rw[hb] at h;simp only[aF,if_pos hi] at h;rw[eH hi] at h |-;simp only[φ'];rw[if_neg (ft.old i hi)];exact h.symm
  ·have hlt:i<n0':=by
    rcases Z0a i n0' with h|h
    ·exact h
    ·rw[hnone i h] at hb;cases hb
   rw[Jb hi];simp only[φ'];rw[if_pos ⟨aa,aa⟩,show new+(i-tbl.length)-new+tbl.length=i by omega];exact hb
 have hle:∀ (x:Nat) (b:Nat×Nat),φ x=some b->φ' x=some b:=by
  intro x b hb;simp only[φ'];split
  ·rename_i h;rw[hfree x h.1 h.2] at hb;cases hb
  ·exact hb
 have hmono:Ph.le φc' (φ'.ren (rn tbl new)):=⟨λi b hb=>e1 i b hb,λ_ _ h=>h⟩
 have hle':φ.le φ':=⟨hle,st.zle⟩
 --a block of the caller's that the callee may not write
 have out:∀ x bl b,lk M x=some bl->(∀ i,i<tbl.length->tbl.getD i 0=x->∀ b,lk L0 i=some b->b.ro=true)->φ x=some b-> ¬Wr (aF tbl.length (φ.ren (rn tbl new))) L0 b.1:=by
  rintro x bl b hx hro hb ⟨j,bj,c,hj,hpj,hcc,hrj⟩;obtain⟨hjl,bl',hbl',hre,hw⟩:=ft.fit j bj hj;simp only[aF,if_pos hjl,eH hjl] at hpj
  rcases hM.inj x (tbl.getD j 0) bl bl' b c hx hbl' hb hpj hcc.symm with e|⟨_,e⟩
  ·rw[hro j hjl e.symm bj hj] at hrj;cases hrj
  ·rw[hw e] at hrj;cases hrj
 have cross:∀ x bl b j blj bb,lk M x=some bl->(∀ i,i<tbl.length->tbl.getD i 0=x->∀ b,lk L0 i=some b->b.ro=true)->φ x=some b->
  lk L0' j=some blj->φc' j=some bb->b.1=bb.1->(tbl.length<=j\/∃ b,lk L0 j=some b/\b.ro=false)->bl.ro=true/\blj.ro=true:=by
  intro x bl b j blj bb hx hro hb hj hpj hbb hcase;obtain⟨b',hb',hat⟩:=hM.hr x bl hx;rw[hb] at hb';cases hb';obtain⟨k,bk,c,hk,hpk,hcc,hr,ho⟩:=st.fresh j blj bb hj hpj (hbb▸hat.lt);obtain⟨hkl,bl',hbl',hre,hw⟩:=ft.fit k bk hk;simp only[aF,if_pos hkl,eH hkl] at hpk
  rcases hM.inj x (tbl.getD k 0) bl bl' b c hx hbl' hb hpk (hbb.trans hcc.symm) with e|⟨e1,e2⟩
  ·have hkro:=hro k hkl e.symm bk hk
   rcases ho with rfl|ho
   ·rcases hcase with h|⟨b0,hb0,hro0⟩
    ·omega
    ·rw[hk] at hb0;cases hb0;rw[hkro] at hro0;cases hro0
   ·rw[hkro] at ho;cases ho
  ·exact⟨e1,hr (hw e2)⟩
 have zout:∀ b l,φ'.z b=some l->∀ x bl c,lk M x=some bl->(∀ i,i<tbl.length->tbl.getD i 0=x->∀ b,lk L0 i=some b->b.ro=true)->φ x=some c->c.1=b->bl.ro=false->False:=by
  intro b l hb x bl c hm hro hc hcb hrw;obtain⟨c',hc',hat⟩:=hM.hr x bl hm;rw[hc] at hc';cases hc'
  rcases st.zfr b l hb with h|h|h
  ·exact (hM.fz b l h).2 ⟨x,bl,c,hm,hc,hcb,hrw⟩
  ·have:=hat.lt;omega
  ·exact out x bl c hm hro hc (hcb▸h)
 refine⟨φ',hmono,⟨?_,?_,λb l hb=>⟨(h'.fz b l hb).1,?_⟩,h'.gz⟩,⟨st.os,st.tape,st.output,st.size,?_,?_,st.zle,?_⟩,λi hi=>by simp only[φ',if_neg hi]⟩
 rotate_left 2
 ·rintro⟨x,bl,c,hx,hc,hcb,hrw⟩
  rcases af x bl hx with ⟨i,bl0,rfl,hi,rfl,_⟩|⟨hm,hro⟩
  ·obtain⟨d,hd,_⟩:=h'.hr i bl0 hi
   have:=e1 i d hd;rw[hc] at this;cases this;exact (h'.fz b l hb).2 ⟨i,bl0,c,hi,hd,hcb,by rw[cM] at hrw;exact hrw⟩
  ·obtain⟨d,hd,_⟩:=hM.hr x bl hm
   have:=hle x d hd;rw[hc] at this;cases this;exact zout b l hb x bl c hm hro hd hcb hrw
 rotate_left 2
 ·intro b l hb
  rcases st.zfr b l hb with h|h|⟨j,bj,c,hj,hpj,hcc,hrj⟩
  ·exact .inl h
  ·exact .inr (.inl h)
  ·obtain⟨hjl,bl',hbl',hre,hw⟩:=ft.fit j bj hj
   simp only[aF,if_pos hjl,eH hjl] at hpj;exact .inr (.inr ⟨_,bl',c,hbl',hpj,hcc,by cases e:bl'.ro with|false=>rfl|true=>rw[hw e] at hrj;cases hrj⟩)
 ·intro x bl hx
  rcases af x bl hx with ⟨i,bl0,rfl,hi,rfl,_⟩|⟨hm,hro⟩
  ·obtain⟨b,hb,hat⟩:=h'.hr i bl0 hi
   exact⟨b,e1 i b hb,lh.2 (hat.mono hmono rfl)⟩
  ·obtain⟨b,hb,hat⟩:=hM.hr x bl hm
   exact⟨b,hle x b hb,hat.mono hle' (st.keep b.1 hat.lt (out x bl b hm hro hb))⟩
 ·intro x y bl bl' b b' hx hy hb hb' hbb
  rcases af x bl hx with ⟨i,bi,rfl,hi,rfl,hci⟩|⟨hm,hro⟩<;>rcases af y bl' hy with ⟨j,bj,rfl,hj,rfl,hcj⟩|⟨km,kro⟩
  ·obtain⟨c,hc,_⟩:=h'.hr i bi hi
   obtain⟨d,hd,_⟩:=h'.hr j bj hj;have:=e1 i c hc;rw[hb] at this;cases this;have:=e1 j d hd;rw[hb'] at this;cases this
   rcases h'.inj i j bi bj b b' hi hj hc hd hbb with rfl|h
   ·exact .inl rfl
   ·exact .inr (by rw[cM,cM];exact h)
  ·obtain⟨c,hc,_⟩:=h'.hr i bi hi
   have:=e1 i c hc;rw[hb] at this;cases this;obtain⟨d,hd,_⟩:=hM.hr y bl' km;have:=hle y d hd;rw[hb'] at this;cases this;have:=cross y bl' b' i bi b km kro hd hi hc hbb.symm hci;exact .inr ⟨by rw[cM];exact this.2,this.1⟩
  ·obtain⟨c,hc,_⟩:=h'.hr j bj hj
   have:=e1 j c hc;rw[hb'] at this;cases this;obtain⟨d,hd,_⟩:=hM.hr x bl hm;have:=hle x d hd;rw[hb] at this;cases this;have:=cross x bl b j bj b' hm hro hd hj hc hbb hcj;exact .inr ⟨this.1,by rw[cM];exact this.2⟩
  ·obtain⟨c,hc,_⟩:=hM.hr x bl hm
   have:=hle x c hc;rw[hb] at this;cases this;obtain⟨d,hd,_⟩:=hM.hr y bl' km;have:=hle y d hd;rw[hb'] at this;cases this;exact hM.inj x y bl bl' b b' hm km hc hd hbb
 ·intro b hb hn
  refine st.keep b hb ?_;rintro⟨j,bj,c,hj,hpj,hcc,hrj⟩;obtain⟨hjl,bl',hbl',hre,hw⟩:=ft.fit j bj hj;simp only[aF,if_pos hjl,eH hjl] at hpj;exact hn ⟨_,bl',c,hbl',hpj,hcc,by cases e:bl'.ro with|false=>rfl|true=>rw[hw e] at hrj;cases hrj⟩
 ·intro x bl b hx hb hlt
  rcases af x bl hx with ⟨i,bi,rfl,hi,rfl,hci⟩|⟨hm,hro⟩
  ·obtain⟨c,hc,_⟩:=h'.hr i bi hi
   have:=e1 i c hc;rw[hb] at this;cases this;obtain⟨k,bk,c,hk,hpk,hcc,hr,ho⟩:=st.fresh i bi b hi hc hlt;obtain⟨hkl,bl',hbl',hre,hw⟩:=ft.fit k bk hk;simp only[aF,if_pos hkl] at hpk;refine⟨rn tbl new k,bl',c,by rw[eH hkl];exact hbl',hpk,hcc,λe=>by rw[cM];exact hr (hw e),?_⟩
   rcases ho with rfl|ho
   ·exact .inl rfl
   ·exact .inr (by cases e:bl'.ro with|false=>rfl|true=>rw[hw e] at ho;cases ho)
  ·obtain⟨c,hc,_⟩:=hM.hr x bl hm
   have:=hle x c hc;rw[hb] at this;cases this;exact⟨x,bl,b,hm,hc,rfl,id,.inl rfl⟩
theorem Fits.good (ft:Fits tbl new n0' L0 M) (hM:Good φ M w) (ok:eV tbl.length L0=true):
 Good (aF tbl.length (φ.ren (rn tbl new))) L0 w:=by
 refine⟨λi bl hi=>?_,λi j bl bl' b b' hi hj hb hb' hbb=>?_,λb l hb=>⟨(hM.fz b l hb).1,?_⟩,hM.gz⟩
 rotate_left 2
 ·rintro⟨j,bj,c,hj,hpj,hcc,hrj⟩
  obtain⟨hjl,bl',hbl',hre,hw⟩:=ft.fit j bj hj;simp only[aF,if_pos hjl,eH hjl] at hpj;exact (hM.fz b l hb).2 ⟨_,bl',c,hbl',hpj,hcc,by cases e:bl'.ro with|false=>rfl|true=>rw[hw e] at hrj;cases hrj⟩
 ·obtain⟨hil,bl',hbl',hre,hw⟩:=ft.fit i bl hi
  obtain⟨b,hb,hat⟩:=hM.hr _ bl' hbl';refine⟨b,by simp only[aF,if_pos hil,eH hil];exact hb,?_⟩
  have h1:BlAt φ w b (ed (rn tbl new) bl):=by
   have h2:=hat.weaken bl.ro hw;rw[<-hre] at h2
   have e:({{ed (rn tbl new) bl with ro:=bl'.ro} with ro:=bl.ro}:Bl)=ed (rn tbl new) bl:=by
    have:=cM (rn tbl new) bl
    cases hx:ed (rn tbl new) bl with|mk c t m r s f gg=>rw[hx] at this;simp at this;subst this;rfl
   rw[e] at h2;exact h2
  exact (lh.1 h1).cut (cN ok hi).2
 ·obtain⟨hil,bi,hbi,_,wi⟩:=ft.fit i bl hi
  obtain⟨hjl,bj,hbj,_,wj⟩:=ft.fit j bl' hj;simp only[aF,if_pos hil,eH hil] at hb;simp only[aF,if_pos hjl,eH hjl] at hb'
  rcases hM.inj _ _ bi bj b b' hbi hbj hb hb' hbb with e|⟨e1,e2⟩
  ·exact ft.ali i j bl bl' hi hj e
  ·exact .inr ⟨wi e1,wj e2⟩
def VLe (a b:V):Prop:=∀ (φ:Ph) (x:Value),Vr φ a x->Vr φ b x
theorem VLe.refl (a:V):VLe a a:=λ_ _ h=>h
theorem VLe.refls:∀ l:List V,All2 VLe l l
 |[]=>trivial
 |x::t=>⟨VLe.refl x,VLe.refls t⟩
theorem VLe.all {φ:Ph}:∀ {l l':List V} {xs:List Value},All2 VLe l l'->All2 (Vr φ) l xs->All2 (Vr φ) l' xs
 |[],[],[],_,_=>trivial
 |_::_,_::_,_::_,h,k=>⟨h.1 _ _ k.1,VLe.all h.2 k.2⟩
 |[],_::_,_,h,_=>h.elim
 |_::_,[],_,h,_=>h.elim
 |[],[],_::_,_,k=>k.elim
 |_::_,_::_,[],_,k=>k.elim
theorem SC.opW {args0:List V} {v0:V} (h:SC P f args0 tbl.length L0 v0 n0' L0')
 (ok1:args0.all (fp tbl.length)=true) (ok2:eV tbl.length L0=true) {o:Oper} {c:Call} {fn:Func} (ho:o.op=.call c) (hc:c.callee=.value (.func f)) (hfn:P.funcs[f]? =some fn) (hbody:fn.body.isSome=true)
 (hname : (fn.name == "runtime.NumGoroutine") = false) {env : List V} {n : Nat} (hargs : All2 VLe (c.args.toList.map (ev env)) (args0.map (bW (rn tbl n)))) {M M' : Hp} (ft : Fits tbl n n0' L0 M) (af : vy tbl n L0 L0' M M') :
 OpL P o env n M (bW (rn tbl n) v0) (n+(n0'-tbl.length)) M':=by
 intro φ a w Q hx hM hfree
 have hrun:(execOp a.eval o).run P w=.ok (.enter f (c.args.map a.eval)) w:=by
  have h1 : ¬ fn.name = "runtime.NumGoroutine" := by simpa using hname
  have h2: ¬fn.body=none:=by intro e;rw[e] at hbody;cases hbody
  simp[execOp,ho,resolve,hc,Deferred.ofValue,Act.eval,invoke,callFunc,hfn,h1,h2]
 unfold Oper.wp;rw[hrun,Oper.upon_enter]
 have hxs:All2 (Vr φ) (args0.map (bW (rn tbl n))) (c.args.toList.map a.eval):=by
  refine VLe.all hargs ?_
  have key:∀ l:List Operand,(∀ x∈l,Vr φ (ev env x) (a.eval x))->All2 (Vr φ) (l.map (ev env)) (l.map a.eval):=by
   intro l
   induction l with
   |nil=>intro _;trivial
   |cons y t ih=>intro hl;exact⟨hl y (.head _),ih λx hx=>hl x (.tail _ hx)⟩
  refine key _ λx hm=>hx x ?_
  rw[ho];simp only[Op.operands,Call.operands,hc];simp at hm |-;exact .inr hm
 have hxs':All2 (Vr (aF tbl.length (φ.ren (rn tbl n)))) args0 (c.args.toList.map a.eval):=by
  refine jo ?_ ok1
  have key:∀ (l:List V) (xs:List Value),All2 (Vr φ) (l.map (bW (rn tbl n))) xs->All2 (Vr (φ.ren (rn tbl n))) l xs:=by
   intro l
   induction l with
   |nil=>intro xs hl;cases xs<;>first|trivial|exact hl.elim
   |cons y t ih=>intro xs hl;cases xs with
    |nil=>exact hl.elim
    |cons x xs=>exact⟨sR.1 hl.1,ih xs hl.2⟩
  exact key _ _ hxs
 have hcall:=h (aF tbl.length (φ.ren (rn tbl n))) (c.args.toList.map a.eval) w hxs' (ft.good hM ok2) (λi hi=>by simp[aF];omega)
 have e:(c.args.toList.map a.eval).toArray=c.args.map a.eval:=by
  apply Z3v;simp
 rw[e] at hcall;refine Z4d hcall ?_;rintro en w' ⟨φc',x,rfl,hv,hg,hnone,st,hn,hag⟩;obtain⟨φ',e1,g1,g2,g3⟩:=Bx hn hM ft hg st hag hnone hfree af;exact⟨φ',x,rfl,sR.2 (hv.mono e1),g1,g2,g3⟩
theorem SC.op {args0:List V} {v0:V} (h:SC P f args0 tbl.length L0 v0 n0' L0')
 (ok1:args0.all (fp tbl.length)=true) (ok2:eV tbl.length L0=true) {o:Oper} {c:Call} {fn:Func} (ho:o.op=.call c) (hc:c.callee=.value (.func f)) (hfn:P.funcs[f]? =some fn) (hbody:fn.body.isSome=true)
 (hname : (fn.name == "runtime.NumGoroutine") = false) {env : List V} {n : Nat} (hargs : c.args.toList.map (ev env) = args0.map (bW (rn tbl n))) {M M' : Hp} (ft : Fits tbl n n0' L0 M) (af : vy tbl n L0 L0' M M') :
 OpL P o env n M (bW (rn tbl n) v0) (n+(n0'-tbl.length)) M':=SC.opW h ok1 ok2 ho hc hfn hbody hname (hargs▸VLe.refls _) ft af
def y8 (P:Program) (t:TypeId):Option (Bool×Nat):=
 match P.underlying t with
 |some (.struct _)=>(P.info? t).map λi=>(true,i.size)
 |some (.array _ _)=>(P.info? t).map λi=>(true,i.size)
 |some _=>(P.info? t).map λi=>(false,i.size)
 |none=>none
def ef (agg:Bool) (sz:Nat) (bl:Bl) (o:Nat):Option V:=
 match bl.kind with
 |some _=>none
 |none=>
  match agg with
  |true=>match Nat.ble (o+sz) bl.cells.length with|true=>some (.agg ((bl.cells.drop o).take sz))|false=>none
  |false=>match bl.cells[o]? with|some x=>some (.s x)|none=>none
theorem f_ {α:Type} (pre l:List α) {k:Nat} (h:pre.length=k) (o:Nat):(pre++l)[o+k]? =l[o]? :=by
 rw[Z1f aa];congr 1;omega
theorem yD (h:BlAt φ w b bl) (hkd:bl.kind=none) {o:Nat} {x:S} (hx:bl.cells[o]? =some x):∃ v,w.cell? ⟨b.1,o+b.2,none⟩=some v/\Sr φ x v:=by
 obtain⟨pre,xs,rest,fr,h1,hp,h2,h3,h4⟩:=h;rw[hkd] at h1;simp only[c_] at h1;obtain⟨v,hv,hs⟩:=h2.get hx;refine⟨v,?_,hs.mono (bl.ph_le_self φ)⟩
 have hlt:o<xs.length:=by
  rcases Z0a o xs.length with h|h
  ·exact h
  ·simp[Z0b h] at hv
 simp only[World.cell?,h1];simp only[Z2b,Z0l,if_false,Z1a];rw[f_ pre _ hp,Z0x hlt,hv]
theorem bv (b o n:Nat):Addr.add ⟨b,o,none⟩ n=⟨b,o+n,none⟩:=by unfold Addr.add;split<;>simp_all
theorem bg {P:Program} {w:World} {b o:Nat}:∀ (vs:List Value) (i:Nat) (acc:Array Value),(∀ j v,vs[j]? =some v->w.cell? ⟨b,o+(i+j),none⟩=some v)->
 (loadCellsFrom ⟨b,o,none⟩ i vs.length acc).run P w=.ok (acc++vs.toArray) w
 |[],i,acc,_=>by simp[loadCellsFrom]
 |v::vs,i,acc,h=>by
  have h0:=h 0 v rfl;simp only[Z04,loadCellsFrom,bv,Z09,run_load];rw[Z0p] at h0;simp only[h0,Z05]
  rw[bg vs (i+1) _ (λj v' hj=>by
   have:=h (j+1) v' (by simpa using hj)
   rwa [show i+1+j=i+(j+1) by omega])]
  simp
theorem mh (h:BlAt φ w b bl) {t:TypeId} {ag:Bool} {sz o:Nat} (ht:y8 P t=some (ag,sz)) (hv:ef ag sz bl o=some v):
 ∃ x,(loadVar t ⟨b.1,o+b.2,none⟩).run P w=.ok x w/\Vr φ v x:=by
 have hagg:(isAgg t).run P w=.ok ag w/\(ag=true->(sizeOf t).run P w=.ok sz w):=by
  unfold y8 at ht;simp only[isAgg,sizeOf,typeInfo,underlying,Z09,run_program,Z05]
  cases hu:P.underlying t with
  |none=>simp[hu] at ht
  |some d=>
   simp only[hu] at ht |-
   cases hi:P.info? t with
   |none=>rw[hi] at ht;cases d<;>simp at ht
   |some i=>rw[hi] at ht;cases d<;>simp at ht<;>obtain⟨rfl,rfl⟩:=ht<;>simp
 unfold ef at hv
 cases hkd:bl.kind with
 |some m=>rw[hkd] at hv;cases hv
 |none=>
 rw[hkd] at hv;simp only[] at hv
 cases ag with
 |true=>
  simp only[] at hv
  cases hle:Nat.ble (o+sz) bl.cells.length with
  |false=>rw[hle] at hv;cases hv
  |true=>
   rw[hle] at hv;simp only[Z06] at hv;subst hv;have hle':=Z1y hle;obtain⟨pre,xs,rest,fr,h1,hp,h2,h3,h4⟩:=h;rw[hkd] at h1;simp only[c_] at h1;have hl:=h2.len;have hv2:All2 (Sr φ) ((bl.cells.drop o).take sz) ((xs.drop o).take sz):=((h2.mono λ_ _=>Sr.mono (bl.ph_le_self φ)).drop o).take sz;refine⟨.agg ((xs.drop o).take sz).toArray,?_,_,rfl,hv2⟩
   have hlen:((xs.drop o).take sz).length=sz:=by simp;omega
   have hld:=bg (P:=P) (w:=w) (b:=b.1) (o:=o+b.2) ((xs.drop o).take sz) 0 #[] (by
    intro j v hj
    have hj':j<sz:=by
     rcases Z0a j ((xs.drop o).take sz).length with h|h
     ·omega
     ·simp[Z0b h] at hj
    simp only[Z2w,Z2k,if_pos hj'] at hj;simp only[World.cell?,h1];have:o+j<xs.length:=aa;simp only[Z2b,Z0l,if_false,Z1a,Z0c]
    rw[show o+b.2+j=(o+j)+b.2 by omega,f_ pre _ hp,Z0x this];exact hj)
   rw[hlen] at hld;simp only[loadVar,Z09,hagg.1,Z05,if_true,hagg.2 rfl,loadCells,hld,Z0f];simp
 |false=>
  simp only[] at hv
  cases hc:bl.cells[o]? with
  |none=>rw[hc] at hv;cases hv
  |some y=>
   rw[hc] at hv;simp only[Z06] at hv;subst hv;obtain⟨x,hx,hs⟩:=yD h hkd hc;refine⟨x,?_,hs⟩;simp only[loadVar,Z09,hagg.1,Z05,Z0l,if_false,run_load,hx]
def toU:V->Option U
 | .s x=>some (.s x)
 | .agg l=>some (.agg l)
 |_=>none
def HJ:U->V
 | .s x=> .s x
 | .agg l=> .agg l
theorem Gp {u:U} {x:Value} (h:toU v=some u) (hv:Vr φ v x):Ur φ u x:=by
 cases v<;>simp[toU] at h<;>subst h<;>exact hv
theorem BT {u:U} {x:Value} (hv:Ur φ u x):Vr φ (HJ u) x:=by cases u<;>exact hv
def q_ (P:Program) (env:List V) (M:Hp):ResultVar->Option U
 | .tmp t=>toU (env.getD t .undef)
 | .cell t ty=>
   match env.getD t .undef with
   | .s (.ptr (some (i,o)))=>
     match lk M i,y8 P ty with
     |some bl,some (ag,sz)=>(ef ag sz bl o).bind toU
     |_,_=>none
   |_=>none
def vO (P:Program) (env:List V) (M:Hp):List ResultVar->Option (List U)
 |[]=>some []
 |x::t=>match q_ P env M x,vO P env M t with|some u,some us=>some (u::us)|_,_=>none
def fU (P:Program) (fn:Func) (env:List V) (M:Hp):Option V:=
 match vO P env M fn.results.toList with
 |some [u]=>some (HJ u)
 |some us=>some (.tup us)
 |none=>none
def dt (tmps:Array Value):ResultVar->Sem Value
 | .tmp t=>pure (tmps.getD t Go.undef)
 | .cell s t=>do loadVar t (<-asAddr (tmps.getD s Go.undef))
theorem Br {a:Act} (h1:EnvR φ env a) (h2:Good φ M w) {x:ResultVar} {u:U} (h:q_ P env M x=some u):
 ∃ v,(dt a.tmps x).run P w=.ok v w/\Ur φ u v:=by
 cases x with
 |tmp t=>exact⟨_,rfl,Gp h (h1.slot t)⟩
 |cell t ty=>
  simp only[q_] at h;have hs:=h1.slot t
  cases hv:env.getD t .undef with
  |s y=>
   rw[hv] at h hs
   cases y with
   |ptr p=>
    rcases p with _|⟨i,o⟩
    ·simp at h
    ·simp only[] at h
     obtain⟨b,hb,hval⟩:=hs
     cases hl:lk M i with
     |none=>rw[hl] at h;simp at h
     |some bl=>
      cases ht:y8 P ty with
      |none=>rw[hl,ht] at h;simp at h
      |some q=>
       obtain⟨ag,sz⟩:=q;rw[hl,ht] at h;simp only[] at h
       cases hld:ef ag sz bl o with
       |none=>rw[hld] at h;simp at h
       |some v=>
        rw[hld] at h;obtain⟨b',hb',hat⟩:=h2.hr i bl hl;rw[hb] at hb';cases hb';obtain⟨x,hx,hr⟩:=mh hat ht hld;refine⟨x,?_,Gp h hr⟩;simp only[dt,hval,Z09,asAddr,Z0f,Z05,hx]
   |_=>simp at h
  |_=>rw[hv] at h;simp at h
theorem Hv {a:Act} (h1:EnvR φ env a) (h2:Good φ M w) (h:fU P fn env M=some v):
 ∃ x,(results fn a.tmps).run P w=.ok x w/\Vr φ v x:=by
 have key:∀ (l:List ResultVar) (us:List U),vO P env M l=some us->∃ vs:List Value,
  (l.mapM (dt a.tmps)).run P w=.ok vs w/\All2 (Ur φ) us vs:=by
  intro l
  induction l with
  |nil=>intro us h;simp[vO] at h;subst h;exact⟨[],an,trivial⟩
  |cons x t ih=>
   intro us h;simp only[vO] at h
   cases hu:q_ P env M x with
   |none=>rw[hu] at h;simp at h
   |some u=>
    cases ht:vO P env M t with
    |none=>rw[hu,ht] at h;simp at h
    |some us'=>
     rw[hu,ht] at h;simp only[Z06] at h;subst h;obtain⟨y,hy,hr⟩:=Br h1 h2 hu;obtain⟨vs,hvs,hall⟩:=ih us' ht;refine⟨y::vs,?_,hr,hall⟩;rw[List.mapM_cons];simp only[Z09,hy,Z05,hvs,Z0f]
 unfold fU at h
 cases hl:vO P env M fn.results.toList with
 |none=>rw[hl] at h;cases h
 |some us=>
  rw[hl] at h;obtain⟨vs,hvs,hall⟩:=key _ _ hl
  have hrun:(results fn a.tmps).run P w=.ok (if h:vs.toArray.size=1 then vs.toArray[0] else .tuple vs.toArray) w:=by
   have e:results fn a.tmps=(fn.results.mapM (dt a.tmps)>>=λvs=>pure (if h:vs.size=1 then vs[0] else .tuple vs)):=by
    unfold results;refine congrArg (·>>=_) (congrArg (λf=>Array.mapM f fn.results) (funext λx=>?_))
    cases x<;>rfl
   rw[e,Z09,Array.mapM_eq_mapM_toList];simp only[Sem.run_map,hvs,Z05,Z0f]
  refine⟨_,hrun,?_⟩
  match us,h,vs,hall with
  |[u],h,[x],hall=>
   simp only[Z06] at h;subst h;exact BT hall.1
  |[],h,[],_=>
   simp only[Z06] at h;subst h;exact⟨[],an,trivial⟩
  |u::u'::us,h,x::x'::xs,hall=>
   simp only[Z06] at h;subst h;exact⟨x::x'::xs,an,hall⟩
  |[],_,_::_,h=>exact h.elim
  |[_],_,[],h=>exact h.elim
  |[_],_,_::_::_,h=>exact h.2.elim
  |_::_::_,_,[],h=>exact h.elim
  |_::_::_,_,[_],h=>exact h.2.elim
structure EndOK (P:Program) (fn:Func) (n:Nat) (v:V) (n':Nat) (L':Hp) (new:List Nat) (env:List V) (M:Hp):Prop where
 res:fU P fn env M=some (bW (rn (List.range n++new) 0) v)
 mem:∀ i bl,lk L' i=some bl->lk M (rn (List.range n++new) 0 i)=some (ed (rn (List.range n++new) 0) bl)
 okv:fp n' v=true
 okl:eV n' L'=true
 hn:n'=n+new.length
 inj:∀ i j bl bl',lk L' i=some bl->lk L' j=some bl'->rn (List.range n++new) 0 i=rn (List.range n++new) 0 j->i=j
 mv:∀ j bl,lk L' j=some bl->n<=j->rn (List.range n++new) 0 j<n->bl.ro=false
theorem Bn {new:List Nat} (hn:n'=n+new.length) (hd:(List.range n++new).Nodup) {j:Nat} (hi:i<n') (hj:j<n') (e:rn (List.range n++new) 0 i=rn (List.range n++new) 0 j):i=j:=by
 have h1:i<(List.range n++new).length:=by simp;omega
 have h2:j<(List.range n++new).length:=by simp;omega
 rw[eH h1,eH h2] at e;simp only[Z00,Z01 h1,Z01 h2,Z22] at e;exact (List.getElem_inj hd).1 e
theorem Ja {new:List Nat} (hi:i<n):rn (List.range n++new) 0 i=i:=by
 rw[eH (by simp;omega),Z00,Z0x (by simpa using hi)];simp[hi]
theorem EndOK.nodup {L':Hp} {new:List Nat} (res:fU P fn env M=some (bW (rn (List.range n++new) 0) v))
 (mem:∀ i bl,lk L' i=some bl->lk M (rn (List.range n++new) 0 i)=some (ed (rn (List.range n++new) 0) bl)) (okv:fp n' v=true) (okl:eV n' L'=true) (hn:n'=n+new.length) (inj:(List.range n++new).Nodup):EndOK P fn n v n' L' new env M:=
 ⟨res,mem,okv,okl,hn,λi j bl bl' hi hj e=>Bn hn inj (cN okl hi).1 (cN okl hj).1 e,λj bl hj hjn hlt=>by
  have hj':=(cN okl hj).1;have:=Bn hn inj hj' (show rn (List.range n++new) 0 j<n' by omega) (by rw[Ja hlt])
  omega⟩
theorem SC.intro {c:Code} {args:List V} {L:Hp} {L':Hp} (hf:P.funcs[f]? =some fn) (hb:fn.body=some c)
 (h:Ex P n c (args++List.replicate (fn.ntmps-args.length) .undef) n L λx env m M=>(x=.ret\/x=.normal)/\∃ v1 new,VLe v1 v/\EndOK P fn n v1 n' L' new env M):SC P f args n L v n' L':=by
 intro φ xs w hx hg hnone;have hlen:=hx.len;refine calls_of_wp hf hb (wp_mono (h φ _ w ⟨rfl,?_⟩ hg hnone (Z02 _)) ?_)
 ·have:(xs.toArray++Array.replicate (fn.ntmps-xs.toArray.size) Go.undef).toList=xs++List.replicate (fn.ntmps-args.length) Go.undef:=by simp[hlen]
  rw[this];refine hx.append ?_;generalize fn.ntmps-args.length=k
  induction k with
  |zero=>simp[All2]
  |succ k ih=>simp only[Z16];exact⟨rfl,ih⟩
 rintro x a' w' ⟨φ',env',m,M,⟨hxe,v1,new,hle,fin⟩,g1,g2,g3,g4,g5,g6⟩;obtain⟨y,hy,hr⟩:=Hv g1 g2 fin.res
 let r:=rn (List.range n++new) 0
 let φ2:Ph:=aF n' (φ'.ren r)
 have hlen2:(List.range n++new).length=n':=by rw[fin.hn];simp
 have hro:∀ i,i<n'->r i=(List.range n++new).getD i 0:=λi hi=>eH aa
 have hrn:∀ i,i<n->r i=i:=λi hi=>by
  rw[hro i (by have:=fin.hn;omega),Z00,Z0x (by simpa using hi)];simp[hi]
 have good2:Good φ2 L' w':=by
  refine⟨λi bl hi=>?_,λi j bl bl' b b' hi hj hb hb' hbb=>?_,λb l hb=>⟨(g2.fz b l hb).1,?_⟩,g2.gz⟩
  rotate_left 2
  ·rintro⟨i,bl,c,hi,hc,hcb,hro⟩
   have hi':=(cN fin.okl hi).1;simp only[φ2,aF,if_pos hi'] at hc;exact (g2.fz b l hb).2 ⟨_,_,c,fin.mem i bl hi,hc,hcb,by rw[cM];exact hro⟩
  ·obtain⟨b,hb,hat⟩:=g2.hr _ _ (fin.mem i bl hi)
   obtain⟨hlt,hok⟩:=cN fin.okl hi;exact⟨b,by simp only[φ2,aF,if_pos hlt];exact hb,(lh.1 hat).cut hok⟩
  ·have hi':=(cN fin.okl hi).1
   have hj':=(cN fin.okl hj).1;simp only[φ2,aF,if_pos hi'] at hb;simp only[φ2,aF,if_pos hj'] at hb'
   rcases g2.inj _ _ _ _ b b' (fin.mem i bl hi) (fin.mem j bl' hj) hb hb' hbb with e|e
   ·exact .inl (fin.inj i j bl bl' hi hj e)
   ·rw[cM,cM] at e;exact .inr e
 have stp2:Stp φ L w φ2 L' w':=by
  refine⟨g5.os,g5.tape,g5.output,g5.size,g5.keep,λj bl b hj hb hlt=>?_,g5.zle,g5.zfr⟩;have hj':=(cN fin.okl hj).1;simp only[φ2,aF,if_pos hj'] at hb;obtain⟨k,bk,c,hk,hpk,hcc,hr,ho⟩:=g5.fresh _ _ b (fin.mem j bl hj) hb hlt;rw[cM] at hr;refine⟨k,bk,c,hk,hpk,hcc,hr,?_⟩
  rcases ho with ho|ho
  ·have hkn:k<n:=by
    rcases Z0a k n with h|h
    ·exact h
    ·rw[hnone k h] at hpk;cases hpk
   rcases Z0a j n with hjn|hjn
   ·exact .inl (by rw[ho];exact hrn j hjn)
   ·refine .inr ?_
    have hm:=fin.mv j bl hj hjn (by rw[<-ho];exact hkn)
    cases e:bk.ro with
    |false=>rfl
    |true=>rw[hr e] at hm;cases hm
  ·exact .inr ho
 have post:a'.defers=[]/\∃ v',(results fn a'.tmps).run P w'=.ok v' w'/\∃ φ' x,Ending.returned v'=.returned x/\Vr φ' v x/\Good φ' L' w'/\(∀ i,n'<=i->φ' i=none)/\Stp φ L w φ' L' w'/\n<=n'/\(∀ i,i<n->φ' i=φ i):=by
  refine⟨g1.1,y,hy,φ2,y,rfl,hle _ _ ((sR.1 hr).cut fin.okv),good2,λi hi=>by simp[φ2,aF];omega,stp2,by have:=fin.hn;omega,λi hi=>?_⟩
  have:i<n':=by have:=fin.hn;omega
  simp only[φ2,aF,if_pos this,hrn i hi];exact g6 i hi
 rcases hxe with rfl|rfl<;>exact post
end
end Ab
end Go.Proofs.YtegjgpldfgjoiaaGreatDoor
