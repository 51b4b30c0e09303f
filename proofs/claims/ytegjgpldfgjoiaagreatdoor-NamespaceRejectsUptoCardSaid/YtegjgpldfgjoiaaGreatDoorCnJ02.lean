import Derived.Test.YtegjgpldfgjoiaaGreatDoorCnJ00
import Derived.LoopN
set_option linter.all false
namespace Go.Proofs.YtegjgpldfgjoiaaGreatDoor
namespace Ab
open Go
section
variable {env:List V} {φ:Ph} {o:Oper} {a:Act} {ops:Array Oper} {n:Nat} {P:Program} {L:Hp}
def cI:Value->V
 | .bool b=> .s (.bool b)
 | .int k n=> .s (.int k n)
 | .string s=> .s (.str s.data.toList)
 | .pointer none=> .s (.ptr none)
 | .slice none 0 0=> .s (.slc none 0 (some 0))
 |_=> .any
theorem BM (φ:Ph) (v:Value):Vr φ (cI v) v:=by
 unfold cI
 split<;>simp[Vr,Sr]
def ev (env:List V):Operand->V
 | .tmp t=>env.getD t .undef
 | .const v=>cI v
 | .func f=> .s (.fn f)
 | .global g=> .s (.gp g 0)
def EnvR (φ:Ph) (env:List V) (a:Act):Prop:=a.defers=[]/\All2 (Vr φ) env a.tmps.toList
theorem EnvR.mono {φ':Ph} (hl:φ.le φ') (h:EnvR φ env a):EnvR φ' env a:=⟨h.1,h.2.mono λ_ _=>Vr.mono hl⟩
theorem EnvR.slot (h:EnvR φ env a) (t:Nat):Vr φ (env.getD t .undef) (a.tmps.getD t Go.undef):=by
 have hl:=h.2.len
 rcases Z0a t env.length with hi|hi
 ·obtain⟨b,hb,hr⟩:=h.2.get (i:=t) (a:=env[t]) ae
  have e1:env.getD t .undef=env[t]:=ae
  have e2:a.tmps.getD t Go.undef=b:=by simp[Z1x,<-Z4z,hb]
  grind
 ·have e1:env.getD t .undef=.undef:=ae
  have e2:a.tmps.getD t Go.undef=Go.undef:=by
   grind
  rw[e1,e2];rfl
theorem EnvR.ev (h:EnvR φ env a) (x:Operand):Vr φ (ev env x) (a.eval x):=by
 cases x with
 |tmp t=>exact h.slot t
 |const v=>exact BM φ v
 |global g=>rfl
 |func f=>rfl
def bg (env:List V):Option Tmp->V->List V
 |none,_=>env
 |some d,v=>env.set d v
theorem nM (env:List V) (d:Option Tmp) (v:V):(bg env d v).length=env.length:=by cases d<;>simp[bg]
theorem lB (env:List V) (d:Option Tmp) (v:V) (t:Nat):(bg env d v)[t]? =if d=some t then (if t<env.length then some v else none) else env[t]? :=by
 cases d with
 |none=>simp[bg]
 |some d=>
  grind [bg]
theorem EnvR.put (h:EnvR φ env a) (d:Option Tmp) {v:V} {x:Value} (hv:Vr φ v x):EnvR φ (bg env d v) (a.put d x):=by
 cases d with
 |none=>exact h
 |some d=>exact⟨h.1,by simpa [bg,Act.put] using h.2.set hv⟩
def OpL (P:Program) (o:Oper) (env:List V) (n:Nat) (L:Hp) (v:V) (n':Nat) (L':Hp):Prop:=
 ∀ (φ:Ph) (a:Act) (w:World) (Q:Exit->Act->World->Prop),
   (∀ x∈o.op.operands,Vr φ (ev env x) (a.eval x))->Good φ L w->(∀ i,n<=i->i<n'->φ i=none)->
   o.wp P a w (λa' w'=>∃ φ' x,a'=a.put o.dst x/\Vr φ' v x/\Good φ' L' w'/\Stp φ L w φ' L' w'/\(∀ i,¬(n<=i/\i<n')->φ' i=φ i)) Q
theorem jH {φ':Ph} {n':Nat} (h0:∀ i,n<=i->i<n'->φ i=none) (h:∀ i,¬(n<=i/\i<n')->φ' i=φ i) (hz:∀ b l,φ.z b=some l->φ'.z b=some l):φ.le φ':=by
 refine⟨λi b hb=>?_,hz⟩
 grind
structure R where
 foot:List Nat
 v:V
 wr:Hp
 n':Nat
def res (foot:List Nat) (L:Hp):Hp:=foot.map λi=>(i,lk L i)
theorem bJ (foot:List Nat) (L:Hp) (i:Nat):lk (res foot L) i=if i∈foot then lk L i else none:=by
 induction foot with
 |nil=>simp[res,lk]
 |cons j t ih=>
  have:res (j::t) L=(j,lk L j)::res t L:=rfl
  grind [aY]
def bP (W:Hp):List Nat:=W.map (·.1)
theorem cG (W:Hp):∀ (L:Hp) (i:Nat),i∉bP W->lk (aA L W) i=lk L i:=by
 induction W with
 |nil=>intro L i _;rfl
 |cons x t ih=>
  grind [bP,aA,aC]
theorem iM (W:Hp):∀ (L M:Hp) (i:Nat),i∈bP W->lk (aA L W) i=lk (aA M W) i:=by
 induction W with
 |nil=>intro L M i h;simp[bP] at h
 |cons x t ih=>
  intro L M i h;obtain⟨j,b⟩:=x;simp only[aA];by_cases ht:i∈bP t
  ·grind
  ·simp only[bP,Z13,Z0h] at h
   have hj:i=j:=h.resolve_right ht
   grind [cG,aC]
theorem qZ (W:Hp) (L M:Hp) (i:Nat) (h:lk L i=lk M i):lk (aA L W) i=lk (aA M W) i:=by
 grind [cG,iM]
theorem OpL.step {envD:List V} {LD:Hp} {r:R} (h:OpL P o env n (res r.foot L) r.v r.n' (aA (res r.foot L) r.wr))
 (he:∀ x∈o.op.operands,ev envD x=ev env x) (hL:∀ i∈r.foot,lk LD i=lk L i)
 {φ:Ph} {a:Act} {w:World} (Q:Exit->Act->World->Prop) (ha:EnvR φ envD a) (hg:Good φ LD w) (hf:∀ i,n<=i->i<r.n'->φ i=none):
 o.wp P a w (λa' w'=>∃ φ',EnvR φ' (bg envD o.dst r.v) a'/\Good φ' (aA LD r.wr) w'/\Stp φ LD w φ' (aA LD r.wr) w'/\(∀ i,¬(n<=i/\i<r.n')->φ' i=φ i)) Q:=by
 have hs:xy (res r.foot L) LD:=by
  intro i bl hi
  grind [bJ]
 refine Z4v ?_ (h φ a w Q (λx hx=>he x hx▸ha.ev x) (hg.sub hs) hf);rintro a' w' ⟨φ',x,rfl,hv,hg',st,hag⟩;have hl:=jH hf hag st.zle
 obtain⟨g2,s2⟩:=frame (M':=aA LD r.wr) hg hs hg' st hl (by
  intro i bl hi;by_cases hk:i∈bP r.wr
  ·exact .inl (by rw[iM r.wr _ LD i hk];exact hi)
  ·rw[cG _ _ _ hk] at hi |-
   by_cases hm:i∈r.foot
   ·exact .inl (by rw[bJ,if_pos hm,<-hL i hm];exact hi)
   ·exact .inr ⟨by rw[bJ,if_neg hm],hi⟩)
 exact⟨φ',(ha.mono hl).put o.dst hv,g2,s2,hag⟩
def bf (ops:Array Oper) (env:List V) (o:Oper):Option Bool:=
 match o.guard with
 |none=>some true
 |some (j,b)=>
  match (ops[j]?).bind (·.dst) with
  |none=>some false
  |some t=>
   match env.getD t .undef with
   | .s (.bool c)=>some (c==b)
   | .undef=>some false
   |_=>none
theorem CN {b:Bool} (h:EnvR φ env a) (hw:bf ops env o=some b):
 Region.wanted o (yielded ops a.tmps)=b:=by
 unfold bf at hw;unfold Region.wanted
 cases hg:o.guard with
 |none=>grind
 |some g=>
  obtain⟨j,c⟩:=g;simp only[hg] at hw;simp only[yielded]
  cases hd:(ops[j]?).bind (·.dst) with
  |none=>grind
  |some t=>
   simp only[hd] at hw;simp only[Option.bind_some];have hs:=h.slot t
   have e:a.tmps.getD t Go.undef=(a.tmps[t]?).getD Go.undef:=by simp[Z1x]
   generalize env.getD t .undef=x at hw hs
   cases x with
   |any=>simp at hw
   |agg _=>simp at hw
   |tup _=>simp at hw
   |w=>simp at hw
   |undef=>
    simp at hw;subst hw;simp only[Vr] at hs;rw[e] at hs
    cases ht:a.tmps[t]? with
    |none=>rfl
    |some y=>rw[ht] at hs;simp at hs;subst hs;rfl
   |s y=>
    cases y with
    |bool d=>
     simp at hw;subst hw
     grind [Vr,Sr,Go.undef]
    |_=>simp at hw
def StepOK (P:Program) (ops:Array Oper) (o:Oper) (r:R) (env:List V) (n:Nat) (L:Hp):Prop:=
 (bf ops env o=some true/\OpL P o env n (res r.foot L) r.v r.n' (aA (res r.foot L) r.wr)/\n<=r.n')\/
 (bf ops env o=some false/\r.v=.undef/\r.wr=[]/\r.n'=n)
theorem StepOK.n_le {r:R} (h:StepOK P ops o r env n L):n<=r.n':=by
 rcases h with ⟨_,_,h⟩|⟨_,_,_,h⟩<;>omega
def looks (ops:Array Oper) (o:Oper):List Tmp:=o.looksAt ops
theorem pj {env':List V} (h:∀ t∈looks ops o,env.getD t .undef=env'.getD t .undef):bf ops env o=bf ops env' o:=by
 unfold bf
 cases hg:o.guard with
 |none=>rfl
 |some g=>
  obtain⟨j,c⟩:=g;simp only[]
  cases hd:(ops[j]?).bind (·.dst) with
  |none=>rfl
  |some t=>simp only[];rw[h t (by simp[looks,Oper.looksAt,hg,hd])]
theorem EW {env':List V} (h:∀ t∈looks ops o,env.getD t .undef=env'.getD t .undef):∀ x∈o.op.operands,ev env x=ev env' x:=by
 intro x hx
 cases x with
 |tmp t=>exact h t (Z3c _ (List.mem_filterMap.2 ⟨.tmp t,by simpa using hx,rfl⟩))
 |_=>rfl
theorem StepOK.wpOp {r:R} {envD:List V} {LD:Hp} (h:StepOK P ops o r env n L) {i:Nat} (hi:ops[i]? =some o)
 (he:∀ t∈looks ops o,envD.getD t .undef=env.getD t .undef) (hL:∀ i∈r.foot,lk LD i=lk L i)
 {φ:Ph} {a:Act} {w:World} {Q:Exit->Act->World->Prop} (ha:EnvR φ envD a) (hg:Good φ LD w) (hf:∀ i,n<=i->i<r.n'->φ i=none)
 {K:Act->World->Prop} (hK:∀ φ' a' w',EnvR φ' (bg envD o.dst r.v) a'->Good φ' (aA LD r.wr) w'->Stp φ LD w φ' (aA LD r.wr) w'->(∀ i,¬(n<=i/\i<r.n')->φ' i=φ i)->K a' w'):
 Go.wpOp P ops Q i K a w:=by
 unfold Go.wpOp;simp only[hi]
 rcases h with ⟨hw,hop,_⟩|⟨hw,hv,hwr,hn⟩
 ·rw[<-pj he] at hw
  rw[CN ha hw];simp only[if_true];refine .inl (Z4v ?_ (hop.step (EW he) hL Q ha hg hf))
  grind
 ·rw[<-pj he] at hw
  rw[CN ha hw];simp only[Z0l,if_false];rw[hv,hwr] at hK;exact hK φ _ w (ha.put o.dst (show Vr φ .undef Go.undef from rfl)) hg (Stp.refl _ _ _) (λ_ _=>rfl)
end
section
variable {ops:Array Oper} {L:Hp} {i:Nat}
abbrev Row:=Oper×R
def eD (D:Nat->Bool):Nat->List Row->List V->List V
 |_,[],e=>e
 |k,(o,r)::t,e=>eD D (k+1) t (match D k with|true=>bg e o.dst r.v|false=>e)
def hD (D:Nat->Bool):Nat->List Row->Hp->Hp
 |_,[],L=>L
 |k,(_,r)::t,L=>hD D (k+1) t (match D k with|true=>aA L r.wr|false=>L)
def pS:List Row->Nat->Nat->Nat
 |_,n,0=>n
 |[],n,_+1=>n
 |(_,r)::t,_,i+1=>pS t r.n' i
def RunOK (P:Program) (ops:Array Oper):List Row->List V->Nat->Hp->Prop
 |[],_,_,_=>True
 |(o,r)::t,env,n,L=>StepOK P ops o r env n L/\RunOK P ops t (bg env o.dst r.v) r.n' (aA L r.wr)
theorem na (D:Nat->Bool):∀ (rows:List Row) (k:Nat) (e:List V),(eD D k rows e).length=e.length
 |[],_,_=>rfl
 |(o,r)::t,k,e=>by
  simp only[eD];rw[na D t]
  cases D k<;>simp[nM]
theorem oX {D:Nat->Bool}:∀ (rows:List Row) (k:Nat) (e:List V),(∀ j,k<=j->D j=false)->eD D k rows e=e
 |[],_,_,_=>rfl
 |(o,r)::t,k,e,h=>by
  simp only[eD,h k (Z02 _)]
  exact oX t (k+1) e λj hj=>h j aa
theorem l5 {D:Nat->Bool}:∀ (rows:List Row) (k:Nat) (L:Hp),(∀ j,k<=j->D j=false)->hD D k rows L=L
 |[],_,_,_=>rfl
 |(o,r)::t,k,L,h=>by
  simp only[hD,h k (Z02 _)]
  exact l5 t (k+1) L λj hj=>h j aa
theorem ic {D D':Nat->Bool} {t:Nat}:∀ (rows:List Row) (k:Nat) (e e':List V),e[t]? =e'[t]? ->e.length=e'.length->
 (∀ (i:Nat) o r,rows[i]? =some (o,r)->o.dst=some t->D (k+i)=D' (k+i))->(eD D k rows e)[t]? =(eD D' k rows e')[t]?
 |[],_,_,_,h,_,_=>h
 |(o,r)::rows,k,e,e',h,hl,hd=>by
  simp only[eD]
  refine ic rows (k+1) _ _ ?_ ?_ λi o' r' hi hdst=>by
   have:=hd (i+1) o' r' ae hdst
   grind
  ·by_cases hdst:o.dst=some t
   ·have:=hd 0 o r rfl hdst
    grind [lB]
   all_goals grind [lB]
  all_goals grind [nM]
theorem lR {D D':Nat->Bool} {t:Nat}:∀ (rows:List Row) (k:Nat) (L L':Hp),lk L t=lk L' t->
 (∀ (i:Nat) o r,rows[i]? =some (o,r)->t∈bP r.wr->D (k+i)=D' (k+i))->lk (hD D k rows L) t=lk (hD D' k rows L') t
 |[],_,_,_,h,_=>h
 |(o,r)::rows,k,L,L',h,hd=>by
  simp only[hD]
  refine lR rows (k+1) _ _ ?_ λi o' r' hi hk=>by
   have:=hd (i+1) o' r' ae hk
   grind
  by_cases hk:t∈bP r.wr
  ·have:=hd 0 o r rfl hk
   grind [qZ]
  all_goals grind [cG]
theorem AP:∀ (rows:List Row) (k i:Nat) (e:List V) (o:Oper) (r:R),rows[i]? =some (o,r)->
 eD (λj=>decide (j<k+i+1)) k rows e=bg (eD (λj=>decide (j<k+i)) k rows e) o.dst r.v
 |[],_,i,_,_,_,h=>by grind
 |(o',r')::rows,k,0,e,o,r,h=>by
  grind [eD,oX]
 |(o',r')::rows,k,i+1,e,o,r,h=>by
  simp only[eD];have hk1:decide (k<k+(i+1)+1)=true:=ae;have hk2:decide (k<k+(i+1))=true:=aq;simp only[hk1,hk2];have:=AP rows (k+1) i (bg e o'.dst r'.v) o r ae
  grind
theorem AE:∀ (rows:List Row) (k i:Nat) (L:Hp) (o:Oper) (r:R),rows[i]? =some (o,r)->
 hD (λj=>decide (j<k+i+1)) k rows L=aA (hD (λj=>decide (j<k+i)) k rows L) r.wr
 |[],_,i,_,_,_,h=>by grind
 |(o',r')::rows,k,0,L,o,r,h=>by
  simp only[Z04,Z11,Z06,Z0j] at h;obtain⟨rfl,rfl⟩:=h;simp only[hD]
  grind [l5]
 |(o',r')::rows,k,i+1,L,o,r,h=>by
  simp only[hD];have hk1:decide (k<k+(i+1)+1)=true:=ae;have hk2:decide (k<k+(i+1))=true:=aq;simp only[hk1,hk2];have:=AE rows (k+1) i (aA L r'.wr) o r ae
  grind
theorem RunOK.at {P:Program} {ops:Array Oper}:∀ (rows:List Row) (k i:Nat) (env:List V) (n:Nat) (L:Hp) (o:Oper) (r:R),RunOK P ops rows env n L->rows[i]? =some (o,r)->
 StepOK P ops o r (eD (λj=>decide (j<k+i)) k rows env) (pS rows n i) (hD (λj=>decide (j<k+i)) k rows L)/\r.n'=pS rows n (i+1)
 |[],_,i,_,_,_,_,_,_,h=>by grind
 |(o',r')::rows,k,0,env,n,L,o,r,hr,h=>by
  simp only[Z04,Z11,Z06,Z0j] at h;obtain⟨rfl,rfl⟩:=h;rw[oX _ k _ ae,l5 _ k _ ae];exact⟨hr.1,by simp[pS]⟩
 |(o',r')::rows,k,i+1,env,n,L,o,r,hr,h=>by
  have:=RunOK.at rows (k+1) i _ _ _ o r hr.2 ae;have hk2:decide (k<k+(i+1))=true:=aq;simp only[eD,hD,pS,hk2]
  grind
theorem RunOK.n_mono {P:Program} {ops:Array Oper}:∀ (rows:List Row) (env:List V) (n:Nat) (L:Hp) (i j:Nat),RunOK P ops rows env n L->i<=j->pS rows n i<=pS rows n j
 |rows,env,n,L,i,0,_,h=>by obtain rfl:i=0:=aa
                           exact Z02 _
 |[],env,n,L,i,j+1,_,_=>by cases i<;>simp[pS]
 |(o,r)::rows,env,n,L,0,j+1,hr,_=>by
  simp only[pS];have h1:=hr.1.n_le;have h2:=RunOK.n_mono rows _ _ _ 0 j hr.2 aa
  have h3:pS rows r.n' 0=r.n':=by cases rows<;>rfl
  omega
 |(o,r)::rows,env,n,L,i+1,j+1,hr,h=>by
  simp only[pS];exact RunOK.n_mono rows _ _ _ i j hr.2 aa
def j0 (ops:Array Oper) (D:Nat->Bool):Prop:=∀ (j:Nat) o,ops[j]? =some o->D j=true->∀ e∈o.after.toList,Region.binds .any e=true->D e.on=true
def Jq (ops:Array Oper) (i j:Nat):Prop:=∀ D,j0 ops D->D j=true->D i=true
structure RegOK (ops:Array Oper) (rows:List Row):Prop where
 hops:rows.map (·.1)=ops.toList
 down:∀ (i:Nat) o,ops[i]? =some o->∀ e∈o.after.toList,Region.binds .any e=true->e.on<i
 slot:∀ (i j:Nat) oi ri oj rj t,i<j->rows[i]? =some (oi,ri)->rows[j]? =some (oj,rj)->
  (oi.dst=some t/\(oj.dst=some t\/t∈looks ops oj))\/(oj.dst=some t/\t∈looks ops oi)->Jq ops i j
 mem:∀ (i j:Nat) oi ri oj rj t,i<j->rows[i]? =some (oi,ri)->rows[j]? =some (oj,rj)->
  (t∈bP ri.wr/\(t∈bP rj.wr\/t∈rj.foot))\/(t∈bP rj.wr/\t∈ri.foot)->Jq ops i j
theorem Good.congr {φ:Ph} {M:Hp} {w:World} (h:Good φ M w) (e:∀ i,lk L i=lk M i):Good φ L w:=h.sub λi bl hi=>by grind
theorem Stp.congr {φ φ':Ph} {L' M':Hp} {w w':World} (h:Stp φ L w φ' M' w') (e:∀ i,lk L' i=lk M' i):Stp φ L w φ' L' w':=
 ⟨h.os,h.tape,h.output,h.size,h.keep,λj bl b hj=>h.fresh j bl b ae,h.zle,h.zfr⟩
def fK (D:Nat->Bool) (i:Nat):Nat->Bool:=λj=>decide (j=i)||D j
section
variable {P:Program} {ops:Array Oper} {rows:List Row} {env:List V} {n:Nat} {L:Hp} {D:Nat->Bool} {i:Nat} {o:Oper} {r:R}
theorem KJ (ok:RegOK ops rows) (hc:j0 ops D) (hi:rows[i]? =some (o,r)) (hD:D i=false)
 (hpre:∀ j,Jq ops j i->j≠i->D j=true):eD (fK D i) 0 rows env=bg (eD D 0 rows env) o.dst r.v:=by
 apply Z2i;intro t;rw[lB];by_cases hd:o.dst=some t
 ·rw[if_pos hd,na]
  have e:(eD (fK D i) 0 rows env)[t]? =(eD (λj=>decide (j<0+i+1)) 0 rows env)[t]? :=by
   refine ic rows 0 env env rfl rfl λj oj rj hj hdst=>?_
   simp only[Z0c,fK]
   rcases Z3g j i with h|rfl|h
   ·rw[hpre j (ok.slot j i oj rj o r t h hj hi (.inl ⟨hdst,.inl hd⟩)) aa]
    simp;omega
   ·simp
   ·have:D j=false:=by
     cases e:D j with
     |false=>rfl
     |true=>rw[ok.slot i j o r oj rj t h hi hj (.inl ⟨hd,.inl hdst⟩) D hc e] at hD;cases hD
    grind
  rw[e,AP rows 0 i env o r hi,lB,if_pos hd,na]
 all_goals grind [fK,ic]
theorem EI (ok:RegOK ops rows) (hc:j0 ops D) (hi:rows[i]? =some (o,r)) (hD:D i=false)
 (hpre:∀ j,Jq ops j i->j≠i->D j=true) (t:Nat):lk (Ab.hD (fK D i) 0 rows L) t=lk (aA (Ab.hD D 0 rows L) r.wr) t:=by
 by_cases hk:t∈bP r.wr
 ·have e:lk (Ab.hD (fK D i) 0 rows L) t=lk (Ab.hD (λj=>decide (j<0+i+1)) 0 rows L) t:=by
   refine lR rows 0 L L rfl λj oj rj hj hkj=>?_
   simp only[Z0c,fK]
   rcases Z3g j i with h|rfl|h
   ·rw[hpre j (ok.mem j i oj rj o r t h hj hi (.inl ⟨hkj,.inl hk⟩)) aa]
    simp;omega
   ·simp
   ·have:D j=false:=by
     cases e:D j with
     |false=>rfl
     |true=>rw[ok.mem i j o r oj rj t h hi hj (.inl ⟨hk,.inl hkj⟩) D hc e] at hD;cases hD
    grind
  grind [AE,iM]
 all_goals grind [cG,fK,lR]
theorem vV (ok:RegOK ops rows) (hc:j0 ops D) (hi:rows[i]? =some (o,r)) (hD:D i=false)
 (hpre:∀ j,Jq ops j i->j≠i->D j=true):∀ t∈looks ops o,(eD D 0 rows env).getD t .undef=(eD (λj=>decide (j<0+i)) 0 rows env).getD t .undef:=by
 intro t ht
 have e:(eD D 0 rows env)[t]? =(eD (λj=>decide (j<0+i)) 0 rows env)[t]? :=by
  refine ic rows 0 env env rfl rfl λj oj rj hj hdst=>?_
  simp only[Z0c]
  rcases Z3g j i with h|rfl|h
  ·rw[hpre j (ok.slot j i oj rj o r t h hj hi (.inl ⟨hdst,.inr ht⟩)) aa]
   simp[h]
  ·rw[hD];simp
  ·have:D j=false:=by
    cases e:D j with
    |false=>rfl
    |true=>rw[ok.slot i j o r oj rj t h hi hj (.inr ⟨hdst,ht⟩) D hc e] at hD;cases hD
   grind
 grind
theorem yH (ok:RegOK ops rows) (hc:j0 ops D) (hi:rows[i]? =some (o,r)) (hD:D i=false)
 (hpre:∀ j,Jq ops j i->j≠i->D j=true):∀ t∈r.foot,lk (Ab.hD D 0 rows L) t=lk (Ab.hD (λj=>decide (j<0+i)) 0 rows L) t:=by
 intro t ht
 refine lR rows 0 L L rfl λj oj rj hj hkj=>?_
 simp only[Z0c]
 rcases Z3g j i with h|rfl|h
 ·rw[hpre j (ok.mem j i oj rj o r t h hj hi (.inl ⟨hkj,.inr ht⟩)) aa]
  simp[h]
 ·rw[hD];simp
 ·have:D j=false:=by
   cases e:D j with
   |false=>rfl
   |true=>rw[ok.mem i j o r oj rj t h hi hj (.inr ⟨hkj,ht⟩) D hc e] at hD;cases hD
  grind
end
theorem KR {D:Nat->Bool} {o:Oper} (hc:j0 ops D) (hi:ops[i]? =some o)
 (he:∀ e∈o.after.toList,Region.binds .any e=true->D e.on=true):∀ j,Jq ops j i->j≠i->D j=true:=by
 intro j hb hne;have:=hb (fK D i) ?_ (by simp[fK])
 ·simpa [fK,hne] using this
 ·intro k ok hk hD e hem hbd
  simp only[fK,Z1h,decide_eq_true_eq] at hD |-
  rcases hD with rfl|hD
  ·grind
  ·exact .inr (hc k ok hk hD e hem hbd)
def Inv (P:Program) (rows:List Row) (env:List V) (n:Nat) (L:Hp) (φ₀:Ph) (w₀:World) (D:Nat->Bool) (a:Act) (w:World):Prop:=
 ∃ φ,EnvR φ (eD D 0 rows env) a/\Good φ (hD D 0 rows L) w/\Stp φ₀ L w₀ φ (hD D 0 rows L) w/\
   (∀ i,i<rows.length->D i=false->∀ x,pS rows n i<=x->x<pS rows n (i+1)->φ x=none)/\
   (∀ x,x<n\/pS rows n rows.length<=x->φ x=φ₀ x)
def si (listed:Array Bool):Nat->Bool:=λk=>listed.getD k false
theorem AT (listed:Array Bool) (i:Nat) (h:i<listed.size):si (listed.setIfInBounds i true)=fK (si listed) i:=by
 funext k
 simp only[si,fK,Z1x]
 grind
theorem rH {listed:Array Bool} (hs:listed.size=ops.size) (h:i∈Region.ready .any ops listed):
 ∃ o,ops[i]? =some o/\i<ops.size/\si listed i=false/\∀ e∈o.after.toList,Region.binds .any e=true->si listed e.on=true:=by
 simp only[Region.ready,Z2d,Z29,Z07,Z0v] at h;obtain⟨hi,hl,ha⟩:=h;have ho:ops[i]? =some ops[i]:=ae;refine⟨ops[i],ho,hi,?_,?_⟩
 ·grind [si]
 ·intro e he hb
  simp only[ho,Z1j,Z22] at ha;rw[<-Array.all_toList] at ha
  grind [si]
theorem BO {listed:Array Bool} (hs:listed.size=ops.size) (down:∀ (i:Nat) o,ops[i]? =some o->∀ e∈o.after.toList,Region.binds .any e=true->e.on<i)
 (h:Region.ready .any ops listed=[]):∀ i,i<ops.size->si listed i=true:=by
 intro i
 induction i using Nat.strongRecOn with
 |_ i ih=>
  intro hi
  cases hd:si listed i with
  |true=>rfl
  |false=>
   exfalso;have ho:ops[i]? =some ops[i]:=ae
   have:i∈Region.ready .any ops listed:=by
    grind [Region.ready,si]
   grind
theorem zj {P:Program} {rows:List Row} {env:List V} {n:Nat} {φ₀:Ph} {w₀:World} {Q:Exit->Act->World->Prop}
 (ok:RegOK ops rows) (run:RunOK P ops rows env n L)
 (hQ:∀ a w,Inv P rows env n L φ₀ w₀ (λ_=>true) a w->Q .normal a w):
 ∀ (fuel:Nat) (listed:Array Bool) (a:Act) (w:World),listed.size=ops.size->listed.toList.countP (! ·)=fuel->j0 ops (si listed)->Inv P rows env n L φ₀ w₀ (si listed) a w->
   wpAny P .any ops Q fuel listed a w:=by
 have hlen:rows.length=ops.size:=by rw[<-Z28,<-ok.hops,Z0z]
 have fin:∀ (listed:Array Bool) a w,listed.size=ops.size->Inv P rows env n L φ₀ w₀ (si listed) a w->Region.ready .any ops listed=[]->Q .normal a w:=by
  intro listed a w hs hinv hr;refine hQ a w ?_;have hall:=BO hs ok.down hr;obtain⟨φ,h1,h2,h3,h4,h5⟩:=hinv
  have e1:eD (si listed) 0 rows env=eD (λ_=>true) 0 rows env:=by
   apply Z2i
   grind [ic]
  have e2:∀ t,lk (hD (λ_=>true) 0 rows L) t=lk (hD (si listed) 0 rows L) t:=λt=>by
   grind [lR]
  exact⟨φ,e1▸h1,h2.congr e2,h3.congr e2,λi _ h=>by grind,h5⟩
 intro fuel
 induction fuel with
 |zero=>
  intro listed a w hs hc _ hinv
  have hr:Region.ready .any ops listed=[]:=by
   cases hr:Region.ready .any ops listed with
   |nil=>rfl
   |cons i t=>
    exfalso;obtain⟨o,ho,hi,hd,_⟩:=rH hs (by rw[hr];exact .head _)
    have hz:∀ x∈listed.toList,x=true:=by
     grind
    have:listed[i]'aa=true:=hz _ aq;have hi':i<listed.size:=aa;simp[si,Z1x,hi',this] at hd
  exact⟨hr,fin listed a w hs hinv hr⟩
 |succ fuel ih=>
  intro listed a w hs hc hcl hinv;refine⟨fin listed a w hs hinv,λi hi=>?_⟩;obtain⟨o,ho,hlt,hd,hedges⟩:=rH hs hi
  have hrow:∃ r,rows[i]? =some (o,r):=by
   have h1:(rows.map (·.1))[i]? =some o:=by rw[ok.hops];simpa using ho
   grind
  obtain⟨r,hr⟩:=hrow;have hpre:=KR hcl ho hedges;obtain⟨hstep,hn'⟩:=run.at rows 0 i env n L o r hr;have hi':i<rows.length:=aa;obtain⟨φ,h1,h2,h3,h4,h5⟩:=hinv;refine hstep.wpOp ho (vV ok hcl hr hd hpre) (yH ok hcl hr hd hpre) h1 h2 (λx hx hx'=>h4 i hi' hd x hx (hn'▸hx')) ?_;intro φ' a' w' g1 g2 g3 g4;have hli:i<listed.size:=aa
  have hdl:listed[i]=false:=by simpa [si,Z1x,hli] using hd
  refine ih _ a' w' ae ?_ ?_ ?_
  ·grind
  ·rw[AT _ _ hli]
   intro k ok' hk hD e hem hbd;simp only[fK,Z1h,decide_eq_true_eq] at hD |-
   rcases hD with rfl|hD
   ·grind
   ·exact .inr (hcl k ok' hk hD e hem hbd)
  ·rw[AT _ _ hli]
   refine⟨φ',KJ ok hcl hr hd hpre▸g1,g2.congr (EI ok hcl hr hd hpre),(h3.trans g3).congr (EI ok hcl hr hd hpre),?_,?_⟩
   ·intro k hk hDk x hx hx'
    simp only[fK,Z2y,decide_eq_false_iff_not] at hDk;rw[g4 x ?_]
    ·grind
    ·rintro⟨q1,q2⟩
     rw[hn'] at q2
     rcases Z3g k i with h|h|h
     ·have:=run.n_mono rows env n L (k+1) i aa;omega
     ·exact hDk.1 h
     ·have:=run.n_mono rows env n L (i+1) k aa;omega
   ·intro x hx
    rw[g4 x ?_]
    ·exact h5 x hx
    ·rintro⟨q1,q2⟩
     rw[hn'] at q2;have m1:=run.n_mono rows env n L 0 i aa;have m2:=run.n_mono rows env n L (i+1) rows.length aa
     have m3:pS rows n 0=n:=by cases rows<;>rfl
     omega
end
section
variable {n id:Nat} {φ:Ph} {w:World} {c:Code} {L' L:Hp} {rows:List Row} {v:Value}
abbrev Post:=Exit->List V->Nat->Hp->Prop
def Ex (P:Program) (b:Nat) (c:Code) (env:List V) (n:Nat) (L:Hp) (R:Post):Prop:=
 ∀ (φ:Ph) (a:Act) (w:World),EnvR φ env a->Good φ L w->(∀ i,n<=i->φ i=none)->b<=n->
   c.wp P (λx a' w'=>∃ φ' env' n' L',R x env' n' L'/\EnvR φ' env' a'/\Good φ' L' w'/\(∀ i,n'<=i->φ' i=none)/\b<=n'/\Stp φ L w φ' L' w'/\(∀ i,i<b->φ' i=φ i)) a w
section
variable {P:Program} {b:Nat} {env:List V} {n:Nat} {L:Hp} {R R':Post}
theorem Ex.mono (h:Ex P b c env n L R) (hr:∀ x e m M,R x e m M->R' x e m M):Ex P b c env n L R':=by
 intro φ a w h1 h2 h3 h4;refine wp_mono (h φ a w h1 h2 h3 h4) ?_
 grind
theorem Ex.here {x:Exit} (hc:∀ (Q:Exit->Act->World->Prop) a w,Q x a w->c.wp P Q a w) (h:R x env n L):Ex P b c env n L R:=by
 intro φ a w h1 h2 h3 h4;exact hc _ a w ⟨φ,env,n,L,h,h1,h2,h3,h4,Stp.refl _ _ _,λ_ _=>rfl⟩
theorem Ex.skip (h:R .normal env n L):Ex P b .skip env n L R:=Ex.here (λ_ _ _ h=>wp_skip h) h
theorem Ex.ret (h:R .ret env n L):Ex P b .ret env n L R:=Ex.here (λ_ _ _ h=>wp_ret h) h
theorem Ex.exit (h:R (.exit id) env n L):Ex P b (.exit id) env n L R:=Ex.here (λ_ _ _ h=>wp_exit h) h
def Then (P:Program) (b:Nat) (y:Code) (R:Post):Post
 | .normal,e,m,M=>Ex P b y e m M R
 |x,e,m,M=>R x e m M
theorem Ex.seq {x y:Code} (h:Ex P b x env n L (Then P b y R)):Ex P b (.seq x y) env n L R:=by
 intro φ a w h1 h2 h3 h4;refine wp_seq (wp_mono (h φ a w h1 h2 h3 h4) ?_);rintro e a' w' ⟨φ',e',m,M,hR,g1,g2,g3,g4,g5,g6⟩
 cases e with
 |normal=>
  simp only[Exit.then];refine wp_mono (hR φ' a' w' g1 g2 g3 g4) ?_;rintro x a'' w'' ⟨φ'',e'',m',M',hR',k1,k2,k3,k4,k5,k6⟩;exact⟨φ'',e'',m',M',hR',k1,k2,k3,k4,g5.trans k5,λi hi=>(k6 i hi).trans (g6 i hi)⟩
 |_=>exact⟨φ',e',m,M,hR,g1,g2,g3,g4,g5,g6⟩
theorem Ex.cond {c:Operand} {x y:Code} {t:Bool} (hc:ev env c=.s (.bool t)) (h:Ex P b (match t with|true=>x|false=>y) env n L R):Ex P b (.cond c x y) env n L R:=by
 intro φ a w h1 h2 h3 h4;have:=h1.ev c;rw[hc] at this;simp only[Vr,Sr] at this;refine wp_cond this ?_;have h':=h φ a w h1 h2 h3 h4
 grind
def InBlock (id:Nat) (R:Post):Post
 | .exit id',e,m,M=>match Nat.beq id' id with|true=>R .normal e m M|false=>R (.exit id') e m M
 |x,e,m,M=>R x e m M
theorem Ex.block (h:Ex P b c env n L (InBlock id R)):Ex P b (.block id c) env n L R:=by
 intro φ a w h1 h2 h3 h4;refine wp_block (wp_mono (h φ a w h1 h2 h3 h4) ?_);rintro e a' w' ⟨φ',e',m,M,hR,g⟩
 cases e with
 |exit id'=>
  simp only[Exit.inBlock];by_cases hi:id'=id
  ·subst hi
   rw[if_pos rfl];simp only[InBlock,Z2n] at hR
   grind
  all_goals grind [InBlock,nC]
 |_=>exact⟨φ',e',m,M,hR,g⟩
theorem Inv.zero {a:Act} (h1:EnvR φ env a) (h2:Good φ L w) (h3:∀ i,n<=i->φ i=none) (mono:∀ i,n<=pS rows n i):
 Inv P rows env n L φ w (λ_=>false) a w:=by
 refine⟨φ,?_,?_,?_,?_,λ_ _=>rfl⟩
 ·rw[oX _ _ _ (λ_ _=>rfl)];exact h1
 ·rw[l5 _ _ _ (λ_ _=>rfl)];exact h2
 ·rw[l5 _ _ _ (λ_ _=>rfl)];exact Stp.refl _ _ _
 all_goals grind
theorem yD {d:Nat} (h:Good φ L w):Good φ L {w with drawn:=d}:=⟨h.hr,h.inj,h.fz,h.gz⟩
theorem Bu {φ':Ph} {L':Hp} {w':World} {d:Nat} (h:Stp φ L {w with drawn:=d} φ' L' w'):Stp φ L w φ' L' w':=⟨h.os,h.tape,h.output,h.size,h.keep,h.fresh,h.zle,h.zfr⟩
def Ai (rows:List Row) (env:List V) (n:Nat) (L:Hp) (R:Post):Prop:=R .normal (eD (λ_=>true) 0 rows env) (pS rows n rows.length) (hD (λ_=>true) 0 rows L)
theorem Ex.regionDraw (hm:P.follows .mixedOrders=true) {ops:Array Oper} (ok:RegOK ops rows) (run:RunOK P ops rows env n L) (h:Ai rows env n L R):
 Ex P b (.region id ops true) env n L R:=by
 intro φ a w h1 h2 h3 h4
 have mono:∀ i,n<=pS rows n i:=λi=>by
  have:=run.n_mono rows env n L 0 i aa
  have m3:pS rows n 0=n:=by cases rows<;>rfl
  omega
 refine wp_region_any hm (zj (φ₀:=φ) (w₀:={w with drawn:=w.drawn+1}) ok run ?_ ops.size _ a _ aq ?_ ?_ ?_)
 ·rintro a' w' ⟨φ',g1,g2,g3,_,g5⟩
  refine⟨φ',_,_,_,h,g1,g2,λi hi=>?_,Z1z h4 (mono _),Bu g3,λi hi=>g5 i (.inl aa)⟩
  grind
 ·grind [Array.toList_replicate,List.countP_replicate]
 ·intro j o _ hD;simp[si,Z1x,Array.getElem?_replicate] at hD
  grind
 ·have:si (Array.replicate ops.size false)=λ_=>false:=by
   funext k;simp only[si,Z1x,Array.getElem?_replicate];split<;>rfl
  rw[this];exact Inv.zero h1 (yD h2) h3 mono
theorem vp {ops:Array Oper} {Q:Exit->Act->World->Prop} {φ₀:Ph} {w₀:World} {L₀:Hp} {n₀:Nat}:∀ (rows:List Row) (k:Nat) (env:List V) (n:Nat) (L:Hp) (φ:Ph) (a:Act) (w:World),
 (∀ j,ops[k+j]? =(rows[j]?).map (·.1))->RunOK P ops rows env n L->EnvR φ env a->Good φ L w->(∀ i,n<=i->φ i=none)->n₀<=n->Stp φ₀ L₀ w₀ φ L w->(∀ i,i<n₀->φ i=φ₀ i)->
 (∀ φ' a' w',EnvR φ' (eD (λ_=>true) k rows env) a'->Good φ' (hD (λ_=>true) k rows L) w'->(∀ i,pS rows n rows.length<=i->φ' i=none)->
   n₀<=pS rows n rows.length->Stp φ₀ L₀ w₀ φ' (hD (λ_=>true) k rows L) w'->(∀ i,i<n₀->φ' i=φ₀ i)->Q .normal a' w')->
 wpOps P ops Q (List.range' k rows.length) a w
 |[],k,env,n,L,φ,a,w,_,_,h1,h2,h3,h4,h5,h6,hQ=>hQ φ a w h1 h2 h3 h4 h5 h6
 |(o,r)::rows,k,env,n,L,φ,a,w,ho,hr,h1,h2,h3,h4,h5,h6,hQ=>by
  rw[Z04,Z31,wpOps_cons];have hle:=hr.1.n_le;refine hr.1.wpOp (i:=k) (by simpa using ho 0) (λ_ _=>rfl) (λ_ _=>rfl) h1 h2 (λi hi _=>h3 i hi) ?_;intro φ' a' w' g1 g2 g3 g4;refine vp rows (k+1) _ _ _ φ' a' w' (λj=>by rw[show k+1+j=k+(j+1) by omega];simpa using ho (j+1)) hr.2 g1 g2 ?_ aa (h5.trans g3) ?_ hQ
  all_goals grind
theorem Ex.regionText {ops:Array Oper} (hops:rows.map (·.1)=ops.toList) (run:RunOK P ops rows env n L) (h:Ai rows env n L R):
 Ex P b (.region id ops false) env n L R:=by
 intro φ a w h1 h2 h3 h4
 have hlen:rows.length=ops.size:=by rw[<-Z28,<-hops,Z0z]
 refine wp_region ?_;rw[Z4g,<-hlen];refine vp (n₀:=b) rows 0 env n L φ a w (λj=>by rw[Z0c,<-Z4z,<-hops,Z0t]) run h1 h2 h3 h4 (Stp.refl _ _ _) (λ_ _=>rfl) ?_;intro φ' a' w' g1 g2 g3 g4 g5 g6;exact⟨φ',_,_,_,h,g1,g2,g3,g4,g5,g6⟩
end
def oL (n:Nat):S->Bool
 | .ptr (some (i,_))=>Nat.blt i n
 | .slc (some (i,_)) _ _=>Nat.blt i n
 | .sla i g _=>Nat.blt i n&&Nat.blt g n
 | .map (some i)=>Nat.blt i n
 | .itr r m=>Nat.blt r n&&Nat.blt m n
 | .clo _ ps=>ps.all λp=>Nat.blt p.1 n
 | .opq _ t _=>t.lt n
 | .row i g _=>Nat.blt i n&&Nat.blt g n
 |_=>true
def LU (n:Nat):U->Bool
 | .s x=>oL n x
 | .agg l=>l.all (oL n)
def fI (n:Nat):V->Bool
 | .s x=>oL n x
 | .agg l=>l.all (oL n)
 | .tup l=>l.all (LU n)
 | .w i g _ _ _=>Nat.blt i n&&Nat.blt g n
 |_=>true
def okG (n:Nat):Option (Nat×Nat)->Bool
 |some (g,_)=>Nat.blt g n
 |none=>true
def LV (n:Nat) (bl:Bl):Bool:=okG n bl.gh&&match bl.flat with|true=>true|false=>bl.cells.all (oL n)
def fg (n:Nat):Hp->Bool
 |[]=>true
 |(i,some bl)::t=>Nat.blt i n&&LV n bl&&fg n t
 |(_,none)::t=>fg n t
def aH (n:Nat) (φ:Ph):Ph:=⟨λi=>if i<n then φ i else none,φ.z⟩
theorem bd {i:Nat}:Nat.blt i n=true↔i<n:=by
 unfold Nat.blt;rw[Nat.ble_eq];omega
theorem Tm.ev_cut {φ:Ph} {n:Nat}:∀ {t:Tm},t.lt n=true->t.ev (aH n φ)=t.ev φ
 | .v i,h=>by simp only[Tm.ev,aH,if_pos (bd.1 h)]
 | .c _,_=>rfl
 | .bin o k a b,h=>by
   simp only[Tm.lt,Z07] at h;simp only[Tm.ev,Tm.ev_cut h.1,Tm.ev_cut h.2]
theorem vH {φ:Ph} {n:Nat}:∀ {ps:List (Nat×Nat)} {vs:List Value},All2 (PtrR φ) ps vs->(ps.all λp=>Nat.blt p.1 n)=true->All2 (PtrR (aH n φ)) ps vs
 |[],[],_,_=>trivial
 |p::ps,v::vs,h,ok=>by
  simp only[Z1b,Z07] at ok;obtain⟨b,hb,hv⟩:=h.1;exact⟨⟨b,by simp only[aH,if_pos (bd.1 ok.1)];exact hb,hv⟩,vH h.2 ok.2⟩
 |[],_::_,h,_=>h.elim
 |_::_,[],h,_=>h.elim
theorem Sr.cut {x:S} (h:Sr φ x v) (ok:oL n x=true):Sr (aH n φ) x v:=by
 cases x with
 |unk|bool|int|str|junk|emp|emq|fn|gp|frz|fpt|cst=>exact h
 |row i g m=>
  simp only[oL,Z07] at ok
  rcases h with h|⟨h0,b,k,hb,hg,hv⟩
  ·exact .inl h
  ·exact .inr ⟨h0,b,k,by simp only[aH,if_pos (bd.1 ok.1)];exact hb,by simp only[aH,if_pos (bd.1 ok.2)];exact hg,hv⟩
 |map a=>
  rcases a with _|i
  ·exact h
  ·obtain⟨b,hb,hv⟩:=h;exact⟨b,by simp only[aH,if_pos (bd.1 ok)];exact hb,hv⟩
 |itr r m=>
  simp only[oL,Z07] at ok;obtain⟨b,hb,hv⟩:=h;exact⟨b,by simp only[aH,if_pos (bd.1 ok.1)];exact hb,hv⟩
 |clo f ps=>obtain⟨vs,hv,ha⟩:=h;exact⟨vs,hv,vH ha ok⟩
 |opq k t K=>obtain⟨z,hb,hv⟩:=h;exact⟨z,(Tm.ev_cut ok).trans hb,hv⟩
 |sla i g m=>
  simp only[oL,Z07] at ok;obtain⟨b,k,hb,hg,hv⟩:=h;exact⟨b,k,by simp only[aH,if_pos (bd.1 ok.1)];exact hb,by simp only[aH,if_pos (bd.1 ok.2)];exact hg,hv⟩
 |ptr a=>
  rcases a with _|⟨i,o⟩
  ·exact h
  ·obtain⟨b,hb,hv⟩:=h;exact⟨b,by simp only[aH,if_pos (bd.1 ok)];exact hb,hv⟩
 |slc a m c=>
  rcases a with _|⟨i,o⟩
  ·exact h
  ·obtain⟨b,k,hb,hv⟩:=h;exact⟨b,k,by simp only[aH,if_pos (bd.1 ok)];exact hb,hv⟩
theorem mj {φ:Ph} {n:Nat}:∀ {l:List S} {xs:List Value},All2 (Sr φ) l xs->l.all (oL n)=true->All2 (Sr (aH n φ)) l xs
 |[],[],_,_=>trivial
 |_::_,_::_,h,ok=>by
  simp only[Z1b,Z07] at ok;exact⟨h.1.cut ok.1,mj h.2 ok.2⟩
 |[],_::_,h,_=>h.elim
 |_::_,[],h,_=>h.elim
theorem Ur.cut {x:U} (h:Ur φ x v) (ok:LU n x=true):Ur (aH n φ) x v:=by
 cases x with
 |s x=>exact Sr.cut h ok
 |agg l=>obtain⟨xs,hv,ha⟩:=h;exact⟨xs,hv,mj ha ok⟩
theorem sw {φ:Ph} {n:Nat}:∀ {l:List U} {xs:List Value},All2 (Ur φ) l xs->l.all (LU n)=true->All2 (Ur (aH n φ)) l xs
 |[],[],_,_=>trivial
 |_::_,_::_,h,ok=>by
  simp only[Z1b,Z07] at ok;exact⟨h.1.cut ok.1,sw h.2 ok.2⟩
 |[],_::_,h,_=>h.elim
 |_::_,[],h,_=>h.elim
theorem Vr.cut {x:V} (h:Vr φ x v) (ok:fI n x=true):Vr (aH n φ) x v:=by
 cases x with
 |any=>trivial
 |undef=>exact h
 |s x=>exact Sr.cut h ok
 |agg l=>obtain⟨xs,hv,ha⟩:=h;exact⟨xs,hv,mj ha ok⟩
 |tup l=>obtain⟨xs,hv,ha⟩:=h;exact⟨xs,hv,sw ha ok⟩
 |w i g sz j m=>
  simp only[fI,Z07] at ok;obtain⟨b,k,hb,hg,hv⟩:=h;exact⟨b,k,by simp only[aH,if_pos (bd.1 ok.1)];exact hb,by simp only[aH,if_pos (bd.1 ok.2)];exact hg,hv⟩
theorem kx {φ:Ph} {n:Nat}:∀ {l:List V} {xs:List Value},All2 (Vr φ) l xs->l.all (fI n)=true->All2 (Vr (aH n φ)) l xs
 |[],[],_,_=>trivial
 |_::_,_::_,h,ok=>by
  simp only[Z1b,Z07] at ok;exact⟨h.1.cut ok.1,kx h.2 ok.2⟩
 |[],_::_,h,_=>h.elim
 |_::_,[],h,_=>h.elim
theorem dD {n:Nat}:∀ {L:Hp} {i:Nat} {bl:Bl},fg n L=true->lk L i=some bl->i<n/\LV n bl=true
 |[],_,_,_,h=>by simp[lk] at h
 |(j,c)::t,i,bl,ok,h=>by
  rw[aY] at h
  cases c with
  |none=>
   simp only[fg] at ok;split at h
   ·cases h
   ·exact dD ok h
  |some c=>
   simp only[fg,Z07] at ok;split at h
   ·rename_i e;subst e;cases h;exact⟨bd.1 ok.1.1,ok.1.2⟩
   ·exact dD ok.2 h
theorem BlAt.cut {b:Nat×Nat} {bl:Bl} (h:BlAt φ w b bl) (ok:LV n bl=true):BlAt (aH n φ) w b bl:=by
 obtain⟨pre,xs,rest,fr,h1,hp,h2,h3,h4,h5⟩:=h;unfold LV at ok;simp only[Z07] at ok;obtain⟨okg,ok⟩:=ok;refine⟨pre,xs,rest,fr,h1,hp,?_,h3,h4,λg z e=>?_,h5.2⟩
 rotate_left
 ·obtain⟨k,hk,hz⟩:=h5.1 g z e
  rw[e] at okg;exact⟨k,by simp only[aH,if_pos (bd.1 okg)];exact hk,hz⟩
 unfold Bl.ph at h2 |-
 cases hf:bl.flat with
 |true=>simp only[hf] at h2 |-;exact h2
 |false=>grind [mj]
theorem Good.cut (h:Good φ L w) (ok:fg n L=true):Good (aH n φ) L w:=by
 refine⟨λi bl hi=>?_,λi j bl bl' b b' hi hj hb hb'=>?_,λb l hb=>⟨(h.fz b l hb).1,?_⟩,h.gz⟩
 rotate_left 2
 ·rintro⟨i,bl,c,hi,hc,hcb,hro⟩
  simp only[aH] at hc;split at hc
  ·exact (h.fz b l hb).2 ⟨i,bl,c,hi,hc,hcb,hro⟩
  ·cases hc
 ·obtain⟨b,hb,hat⟩:=h.hr i bl hi
  obtain⟨hlt,hok⟩:=dD ok hi;exact⟨b,by simp only[aH,if_pos hlt];exact hb,hat.cut hok⟩
 all_goals grind [aH,h.inj]
def GE (keep:List Nat):Nat->List V->List V
 |_,[]=>[]
 |i,v::t=>(match keep.elem i with|true=>v|false=> .any)::GE keep (i+1) t
theorem CK {φ:Ph} {keep:List Nat}:∀ {i:Nat} {env:List V} {xs:List Value},All2 (Vr φ) env xs->All2 (Vr φ) (GE keep i env) xs
 |_,[],[],_=>trivial
 |i,v::t,x::xs,h=>by
  simp only[GE];refine⟨?_,CK h.2⟩;cases keep.elem i
  ·trivial
  ·exact h.1
 |_,[],_::_,h=>h.elim
 |_,_::_,[],h=>h.elim
structure Wk (n:Nat) (env:List V) (L:Hp) (env':List V) (L':Hp):Prop where
 e:∀ φ xs,All2 (Vr φ) env xs->All2 (Vr φ) env' xs
 l:∀ φ w,Good φ L w->Good φ L' w
 s:∀ i bl,lk L' i=some bl->∃ bl',lk L i=some bl'/\(bl'.ro=true->bl.ro=true)
 okE:env'.all (fI n)=true
 okL:fg n L'=true
theorem Wk.of {env:List V} {env':List V} (keep:List Nat) (he:GE keep 0 env=env') (hl:xy L' L) (o1:env'.all (fI n)=true) (o2:fg n L'=true):Wk n env L env' L':=
 ⟨λφ xs h=>he▸CK h,λ_ _ h=>h.sub hl,λi bl h=>⟨bl,hl i bl h,id⟩,o1,o2⟩
end
