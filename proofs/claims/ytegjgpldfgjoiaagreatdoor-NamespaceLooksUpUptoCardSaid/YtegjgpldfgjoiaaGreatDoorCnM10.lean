import Derived.Test.YtegjgpldfgjoiaaGreatDoorCnM09
set_option linter.all false
namespace Go.Proofs.YtegjgpldfgjoiaaGreatDoor
namespace Ab
open Go
section
variable {m n' n:Nat} {M wr L:Hp} {P:Program} {C p:Prop} {fn:Func} {foot:List Nat} {t:Bool} {r:Nat->Nat} {y x:Code} {as_:List Ans} {c:Operand} {a:List Row} {os':List Oper}
def qO (wr:Hp):Hp:=wr.map λx=>(x.1,none)
def lw (x:Row):Row:=(x.1,⟨x.2.foot,.undef,qO x.2.wr,0⟩)
theorem wx (wr:Hp):bw (qO wr)=bw wr:=by
 simp[bw,qO,Function.comp_def]
theorem vb (ops:Array Oper) (x y:Row):oZ ops (lw x) (lw y)=oZ ops x y:=by
 simp only[oZ,lw,wx]
theorem iX {α β:Type} (f:α->β) (p:β×Nat->Bool):∀ (l:List α) (k:Nat),((l.map f).zipIdx k).all p=(l.zipIdx k).all λx=>p (f x.1,x.2)
 |[],_=>rfl
 |x::t,k=>by simp only[Z13,List.zipIdx_cons,Z1b,iX f p t]
theorem vQ (ops:Array Oper) (rows:List Row):im ops (rows.map lw)=im ops rows:=by
 unfold im;simp only[iX,vb]
def aG (d:Bool) (o:Oper) (foot:List Nat) (wr:Hp) (acc:List Row):List Row:=match d with|true=>(o,⟨foot,.undef,qO wr,0⟩)::acc|false=>acc
def RegX (P:Program) (ops:Array Oper) (d:Bool) (acc:List Row) (os:List Oper) (env:List V) (n:Nat) (L:Hp) (R:Post):Prop:=
 ∃ rows:List Row,rows.map (·.1)=os/\RunOK P ops rows env n L/\(d=true->im ops (acc.reverse++rows.map lw)=true)/\
   R .normal (eD (λ_=>true) 0 rows env) (ou rows n rows.length) (hD (λ_=>true) 0 rows L)
theorem C5:∀ (rows:List Row) (k:Nat) (e:List V),eD (λ_=>true) k rows e=eD (λ_=>true) 0 rows e
 |[],_,_=>rfl
 |(o,r)::t,k,e=>by simp only[eD];rw[C5 t (k+1),C5 t (0+1)]
theorem Cx:∀ (rows:List Row) (k:Nat) (L:Hp),hD (λ_=>true) k rows L=hD (λ_=>true) 0 rows L
 |[],_,_=>rfl
 |(o,r)::t,k,L=>by simp only[hD];rw[Cx t (k+1),Cx t (0+1)]
section
variable {P:Program} {b:Nat} {ops:Array Oper} {d:Bool} {acc:List Row} {os:List Oper} {o:Oper} {env:List V} {n:Nat} {L:Hp} {R:Post}
theorem Ex.reg (hm:P.follows .mixedOrders=true) {id:Nat} (h:RegX P ops d [] ops.toList env n L R):Ex P b (.region id ops d) env n L R:=by
 obtain⟨rows,h1,h2,h3,h4⟩:=h
 cases d with
 |false=>exact Ex.regionText h1 h2 h4
 |true=>exact Ex.regionDraw hm (EO h1 (by have:=h3 rfl;rw[List.reverse_nil,Z1e,vQ] at this;exact this)) h2 h4
theorem RegX.nil (h1:match d with|true=>im ops acc.reverse=true|false=>True) (h2:R .normal env n L):RegX P ops d acc [] env n L R:=
 ⟨[],rfl,trivial,λe=>by subst e;simpa using h1,h2⟩
theorem RegX.step {r:Ab.R} (hs:StepOK P ops o r env n L) (k:RegX P ops d (aG d o r.foot r.wr acc) os (a_ env o.dst r.v) r.n' (aw L r.wr) R):RegX P ops d acc (o::os) env n L R:=by
 obtain⟨rows,h1,h2,h3,h4⟩:=k;refine⟨(o,r)::rows,by rw[Z13,h1],⟨hs,h2⟩,λe=>?_,?_⟩
 ·subst e
  have:=h3 rfl;simp only[aG,List.reverse_cons,Z14,Z35] at this
  simpa [lw] using this
 ·simp only[eD,hD,Z04,ou]
  rw[C5,Cx];exact h4
theorem RegX.op {v:V} (hw:aY ops env o=some true) (h:OpL P o env n (res foot L) v n' (aw (res foot L) wr)) (hn:n<=n')
 (k:RegX P ops d (aG d o foot wr acc) os (a_ env o.dst v) n' (aw L wr) R):RegX P ops d acc (o::os) env n L R:=
 RegX.step (r:=⟨foot,v,wr,n'⟩) (.inl ⟨hw,h,hn⟩) k
theorem RegX.skip (hw:aY ops env o=some false) (k:RegX P ops d (aG d o [] [] acc) os (a_ env o.dst .undef) n L R):RegX P ops d acc (o::os) env n L R:=
 RegX.step (r:=⟨[],.undef,[],n⟩) (.inr ⟨hw,rfl,rfl,rfl⟩) k
def hY:List (Nat×V)->Nat->Option V
 |[],_=>none
 |(j,v)::t,i=>match Nat.beq j i with|true=>some v|false=>hY t i
def evO (base:List V) (u:List (Nat×V)):Operand->V
 | .tmp t=>match hY u t with|some v=>v|none=>base.getD t .undef
 | .const v=>cv v
 | .func f=> .s (.fn f)
 | .global g=> .s (.gp g 0)
def AI (ops:Array Oper) (e:Operand->V) (o:Oper):Option Bool:=
 match o.guard with
 |none=>some true
 |some (j,b)=>
  match (ops[j]?).bind (·.dst) with
  |none=>some false
  |some t=>
   match e (.tmp t) with
   | .s (.bool c)=>some (c==b)
   | .undef=>some false
   |_=>none
theorem j0 (ops:Array Oper) (env:List V) (o:Oper):AI ops (ev env) o=aY ops env o:=by unfold AI aY;rfl
def lK (d:Nat) (v:V):List (Nat×V)->List (Nat×V)
 |[]=>[(d,v)]
 |(j,u)::t=>match Nat.beq j d with|true=>(d,v)::t|false=>match Nat.blt d j with|true=>(d,v)::(j,u)::t|false=>(j,u)::lK d v t
def rQ (d:Option Tmp) (v:V) (u:List (Nat×V)):List (Nat×V):=match d with|some d=>lK d v u|none=>u
def ap (base:List V) (u:List (Nat×V)):List V:=u.foldl (λe x=>e.set x.1 x.2) base
def yW:List (Nat×V)->Prop
 |[]=>True
 |x::t=>(∀ y∈t,x.1<y.1)/\yW t
theorem uB {d:Nat} {v:V}:∀ {u:List (Nat×V)} {y:Nat×V},y∈lK d v u->y=(d,v)\/y∈u
 |[],y,h=>by simp[lK] at h;exact .inl h
 |(j,w)::t,y,h=>by
  simp only[lK] at h;split at h
  ·rcases Z0h.1 h with h|h
   ·exact .inl h
   ·exact .inr (.tail _ h)
  ·split at h
   ·rcases Z0h.1 h with h|h
    ·exact .inl h
    ·exact .inr h
   ·rcases Z0h.1 h with h|h
    ·exact .inr (h▸.head _)
    ·rcases uB h with h|h
     ·exact .inl h
     ·exact .inr (.tail _ h)
theorem uC {d:Nat} {v:V}:∀ {u:List (Nat×V)},(∃ y∈lK d v u,y.1=d)/\∀ x∈u,∃ y∈lK d v u,y.1=x.1
 |[]=>⟨⟨(d,v),by simp[lK],rfl⟩,λx h=>by simp at h⟩
 |(j,w)::t=>by
  simp only[lK];split
  ·rename_i hb
   have:=Z0q hb;subst this
   exact⟨⟨_,.head _,rfl⟩,λx hx=>by
    rcases Z0h.1 hx with rfl|h
    ·exact⟨_,.head _,rfl⟩
    ·exact⟨x,.tail _ h,rfl⟩⟩
  ·split
   ·exact⟨⟨_,.head _,rfl⟩,λx hx=>⟨x,.tail _ hx,rfl⟩⟩
   ·obtain⟨⟨y,hy,e⟩,h2⟩:=uC (d:=d) (v:=v) (u:=t)
    exact⟨⟨y,.tail _ hy,e⟩,λx hx=>by
     rcases Z0h.1 hx with rfl|h
     ·exact⟨_,.head _,rfl⟩
     ·obtain⟨z,hz,e⟩:=h2 x h;exact⟨z,.tail _ hz,e⟩⟩
theorem uA {d:Nat} {v:V}:∀ {u:List (Nat×V)},yW u->yW (lK d v u)
 |[],_=>⟨λy h=>by simp at h,trivial⟩
 |(j,w)::t,h=>by
  simp only[lK];split
  ·rename_i hb
   have:=Z0q hb;subst this;exact h
  ·rename_i hb
   split
   ·rename_i hlt
    have:=aU.1 hlt
    exact⟨λy hy=>by
     rcases Z0h.1 hy with rfl|hy
     ·exact this
     ·exact Nat.lt_trans this (h.1 y hy),h⟩
   ·rename_i hlt
    have hne:j≠d:=λe=>by rw[e,Z2n] at hb;cases hb
    have hge: ¬d<j:=λe=>by rw[aU.2 e] at hlt;cases hlt
    refine⟨λy hy=>?_,uA h.2⟩
    rcases uB hy with rfl|hy
    ·show j<d;omega
    ·exact h.1 y hy
theorem w_ {d:Nat} {v:V}:∀ {u:List (Nat×V)} {base:List V},(∀ y∈u,y.1≠d)->ap (base.set d v) u=(ap base u).set d v
 |[],_,_=>rfl
 |x::t,base,h=>by
  show ap ((base.set d v).set x.1 x.2) t=(ap (base.set x.1 x.2) t).set d v;rw[List.set_comm _ _ (h x (.head _)).symm,w_ λy hy=>h y (.tail _ hy)]
theorem DF {d:Nat} {v:V}:∀ {u:List (Nat×V)} {base:List V},yW u->ap base (lK d v u)=(ap base u).set d v
 |[],_,_=>rfl
 |(j,w)::t,base,h=>by
  simp only[lK];split
  ·rename_i hb
   have:=Z0q hb;subst this;show ap (base.set j v) t=(ap (base.set j w) t).set j v;rw[<-w_ (λy hy=>by have:=h.1 y hy;simp only at this;omega),Z5m]
  ·rename_i hb
   have hne:j≠d:=λe=>by rw[e,Z2n] at hb;cases hb
   split
   ·rename_i hlt
    have:=aU.1 hlt;show ap (base.set d v) ((j,w)::t)=_
    exact w_ λy hy=>by
     rcases Z0h.1 hy with rfl|hy
     ·exact hne
     ·have:=h.1 y hy;simp only at this;omega
   ·exact DF (u:=t) h.2
theorem yL:∀ {u:List (Nat×V)} {base:List V} {t:Nat},yW u->(∀ y∈u,y.1<base.length)->(ap base u).getD t .undef=match hY u t with|some v=>v|none=>base.getD t .undef
 |[],_,_,_,_=>rfl
 |(j,w)::u,base,t,h,hl=>by
  show (ap (base.set j w) u).getD t .undef=_;simp only[hY];have hj:=hl (j,w) (.head _);simp only at hj;rw[yL h.2 (λy hy=>by rw[Z18];exact hl y (.tail _ hy))];split
  ·rename_i v hf
   have hm:∃ y∈u,y.1=t:=by
    apply Z4o;intro hno
    have:∀ u:List (Nat×V),(¬∃ y∈u,y.1=t)->hY u t=none:=by
     intro u
     induction u with
     |nil=>intro _;rfl
     |cons x s ih=>
      intro h;obtain⟨a,c⟩:=x;simp only[hY,l9 (λe=>h ⟨(a,c),.head _,e⟩)]
      exact ih λ⟨y,hy,e⟩=>h ⟨y,.tail _ hy,e⟩
    rw[this u hno] at hf;cases hf
   obtain⟨y,hy,rfl⟩:=hm;have:=h.1 y hy;rw[l9 (show ¬j=y.1 by simp only at this;omega)];simp only[hf]
  ·rename_i hf
   by_cases e:j=t
   ·subst e
    simp only[Z2n,Z00,Z1i];simp[hj]
   ·simp only[l9 e,hf,Z00,Z1i,if_neg e]
theorem rY {base:List V} {u:List (Nat×V)} (h:yW u) (hl:∀ y∈u,y.1<base.length):evO base u=ev (ap base u):=by
 funext x
 cases x with
 |tmp t=>exact (yL h hl).symm
 |_=>rfl
def t_ {β:Type} (k:List V->β) (f:β):List V->Nat->V->Nat->List (Nat×V)->List V->β
 |[],_,_,_,_,_=>f
 |_::l,0,u,_,[],acc=>rv (u::acc) l k
 |_::l,0,u,j,(j',u')::t,acc=>t_ k f l (Nat.sub j' (j+1)) u' j' t (u::acc)
 |v::l,g+1,u,j,t,acc=>t_ k f l g u j t (v::acc)
def mrg {β:Type} (k:List V->β) (f:β) (base:List V) (u:List (Nat×V)):β:=match u with|[]=>k base|(j,x)::t=>t_ k f base j x j t []
theorem foldl_cons {p:Nat} {v:V}:∀ {t:List (Nat×V)} {l:List V},(∀ y∈t,p<y.1)->t.foldl (λe x=>e.set (x.1-p) x.2) (v::l)=v::t.foldl (λe x=>e.set (x.1-(p+1)) x.2) l
 |[],_,_=>rfl
 |x::t,l,h=>by
  have hx:=h x (.head _);simp only[Z2s];rw[show x.1-p=(x.1-(p+1))+1 by omega,Z2j,foldl_cons λy hy=>h y (.tail _ hy)]
theorem rH {β:Type} {k:List V->β} {f:β}:∀ {l:List V} {g:Nat} {u:V} {j:Nat} {t:List (Nat×V)} {acc:List V},g<=j->(∀ y∈t,j<y.1)->yW t->
 ((g<l.length/\∀ y∈t,y.1-(j-g)<l.length)/\t_ k f l g u j t acc=k (acc.reverse++t.foldl (λe x=>e.set (x.1-(j-g)) x.2) (l.set g u)))\/t_ k f l g u j t acc=f
 |[],_,_,_,_,_,_,_,_=> .inr rfl
 |v::l,0,u,j,[],acc,_,_,_=> .inl ⟨⟨an,λy h=>by simp at h⟩,by simp[t_,xL]⟩
 |v::l,0,u,j,(j',u')::t,acc,_,hj,hs=>by
  have h1:=hj (j',u') (.head _);simp only at h1;simp only[t_]
  rcases rH (k:=k) (f:=f) (l:=l) (g:=Nat.sub j' (j+1)) (u:=u') (j:=j') (t:=t) (acc:=u::acc) (Nat.sub_le _ _) (λy hy=>hs.1 y hy) hs.2 with ⟨⟨a,c⟩,h⟩|h
  ·have hg:Nat.sub j' (j+1)=j'-(j+1):=rfl
   have e:j'-Nat.sub j' (j+1)=j+1:=by rw[hg];omega
   rw[e] at c h;refine .inl ⟨⟨an,λy hy=>?_⟩,?_⟩
   ·simp only[Z04,Z30]
    rcases Z0h.1 hy with rfl|hy
    ·simp only;rw[hg] at a;omega
    ·have:=c y hy;have:=hs.1 y hy;simp only at this;omega
   ·rw[h]
    congr 1;simp only[Z3k,Z30,List.reverse_cons,Z14,Z35];rw[foldl_cons λy hy=>hj y hy];rfl
  ·exact .inr h
 |v::l,g+1,u,j,t,acc,hgj,hj,hs=>by
  simp only[t_]
  rcases rH (k:=k) (f:=f) (l:=l) (g:=g) (u:=u) (j:=j) (t:=t) (acc:=v::acc) aa hj hs with ⟨⟨a,c⟩,h⟩|h
  ·refine .inl ⟨⟨by simp;omega,λy hy=>?_⟩,?_⟩
   ·have:=c y hy;have:=hj y hy;simp only[Z04];omega
   ·rw[h]
    congr 1;simp only[Z2j,List.reverse_cons,Z14,Z35];rw[foldl_cons λy hy=>by have:=hj y hy;omega];have e:j-(g+1)+1=j-g:=aa;rw[e]
  ·exact .inr h
theorem HU {β:Type} {k:List V->β} {f:β} {base:List V} {u:List (Nat×V)} (h:yW u):((∀ y∈u,y.1<base.length)/\mrg k f base u=k (ap base u))\/mrg k f base u=f:=by
 cases u with
 |nil=>exact .inl ⟨λy h=>by simp at h,rfl⟩
 |cons x t=>
  obtain⟨j,v⟩:=x
  rcases rH (k:=k) (f:=f) (l:=base) (g:=j) (u:=v) (j:=j) (t:=t) (acc:=[]) (Z02 _) h.1 h.2 with ⟨⟨a,c⟩,e⟩|e
  ·refine .inl ⟨λy hy=>?_,?_⟩
   ·rcases Z0h.1 hy with rfl|hy
    ·exact a
    ·have:=c y hy;rwa [Z3r,Z30] at this
   ·simp only[mrg,e];simp[ap]
  ·exact .inr e
def JO:BinOp->Bool
 | .eql=>true| .neq=>true| .lss=>true| .leq=>true| .gtr=>true| .geq=>true
 |_=>false
def Hj:Op->Bool
 | .binOp op _ _ _ _=>JO op
 | .makeSlice _ _ _=>true
 | .convert _ _ _=>false
 | .call c=>match c.callee with| .builtin .len=>false|_=>true
 |_=>false
abbrev RunO:=Option (List Row×List Oper×List V×Nat×Hp×Prop)
def iz (s:Bool) (acc:List Row) (os:List Oper) (base:List V) (u:List (Nat×V)) (n:Nat) (L:Hp):RunO:=
 match s with|true=>mrg (λenv=>some (acc,os,env,n,L,True)) none base u|false=>none
def An (C:Prop):RunO->RunO
 |some (a,s',e,m,M,D)=>some (a,s',e,m,M,C/\D)
 |none=>none
def il (P:Program) (ops:Array Oper) (d:Bool) (base:List V):Bool->List Oper->List Row->List (Nat×V)->Nat->Hp->RunO
 |s,[],acc,u,n,L=>iz s acc [] base u n L
 |s,o::os,acc,u,n,L=>
  match AI ops (evO base u) o with
  |some true=>
   match Hj o.op with
   |true=>iz s acc (o::os) base u n L
   |false=>
    match DH P o (evO base u) n L with
    |some ⟨⟨foot,v,wr,n'⟩,_,C⟩=>
     li (rQ o.dst v u) [] λu'=>li (aw L wr) [] λL'=>
      match d with
      |true=>An C (il P ops d base true os (aG true o foot wr acc) u' n' L')
      |false=>An C (il P ops d base true os acc u' n' L')
    |none=>iz s acc (o::os) base u n L
  |some false=>
   li (rQ o.dst .undef u) [] λu'=>
    match d with
    |true=>il P ops d base true os (aG true o [] [] acc) u' n L
    |false=>il P ops d base true os acc u' n L
  |none=>iz s acc (o::os) base u n L
theorem i_ {s:Bool} {acc:List Row} {os:List Oper} {base:List V} {u:List (Nat×V)} {e:List V} (hs:yW u) (h:iz s acc os base u n L=some (a,os',e,m,M,C)):
 (∀ y∈u,y.1<base.length)/\a=acc/\os'=os/\e=ap base u/\m=n/\M=L:=by
 unfold iz at h
 cases s with
 |false=>cases h
 |true=>
  simp only[] at h
  rcases HU (k:=λenv=>(some (acc,os,env,n,L,True):RunO)) (f:=none) (base:=base) hs with ⟨h1,h2⟩|h2
  ·rw[h2] at h;cases h;exact⟨h1,rfl,rfl,rfl,rfl,rfl⟩
  ·rw[h2] at h;cases h
theorem kS {d:Option Tmp} {v:V} {u:List (Nat×V)} (h:yW u):yW (rQ d v u):=by
 cases d with
 |none=>exact h
 |some d=>exact uA h
theorem nr {d:Option Tmp} {v:V} {u:List (Nat×V)} {base:List V} (h:yW u):ap base (rQ d v u)=a_ (ap base u) d v:=by
 cases d with
 |none=>rfl
 |some d=>exact DF h
theorem kT {d:Option Tmp} {v:V} {u:List (Nat×V)} {N:Nat} (h:∀ y∈rQ d v u,y.1<N):∀ y∈u,y.1<N:=by
 cases d with
 |none=>exact h
 |some d=>
  intro y hy;obtain⟨z,hz,e⟩:=(uC (d:=d) (v:=v) (u:=u)).2 y hy;rw[<-e];exact h z hz
theorem qz {x:RunO} {e:List V} {E:Prop} (h:An C x=some (a,os',e,m,M,E)):∃ D,x=some (a,os',e,m,M,D)/\(E->C/\D):=by
 unfold An at h;split at h
 ·cases h;exact⟨_,rfl,id⟩
 ·cases h
theorem EJ {base:List V}:∀ (os:List Oper) (s:Bool) (acc:List Row) (u:List (Nat×V)) (n:Nat) (L:Hp) (a:List Row) (os':List Oper) (e:List V) (m:Nat) (M:Hp) (C:Prop),yW u->
 il P ops d base s os acc u n L=some (a,os',e,m,M,C)->(∀ y∈u,y.1<base.length)/\(C->RegX P ops d a os' e m M R->RegX P ops d acc os (ap base u) n L R):=by
 intro os
 induction os with
 |nil=>
  intro s acc u n L a os' e m M C hs h;unfold il at h;obtain⟨h1,rfl,rfl,rfl,rfl,rfl⟩:=i_ hs h;exact⟨h1,λ_ k=>k⟩
 |cons o os ih=>
  intro s acc u n L a os' e m M C hs h
  have stop:iz s acc (o::os) base u n L=some (a,os',e,m,M,C)->(∀ y∈u,y.1<base.length)/\(C->RegX P ops d a os' e m M R->RegX P ops d acc (o::os) (ap base u) n L R):=by
   intro h;obtain⟨h1,rfl,rfl,rfl,rfl,rfl⟩:=i_ hs h;exact⟨h1,λ_ k=>k⟩
  unfold il at h;split at h
  ·rename_i hw
   split at h
   ·exact stop h
   ·split at h
    ·rename_i foot v wr n' as_ C1 ha
     rw[cD,cD] at h
     have go:∀ (acc':List Row),acc'=aG d o foot wr acc->An C1 (il P ops d base true os acc' (rQ o.dst v u) n' (aw L wr))=some (a,os',e,m,M,C)->(∀ y∈u,y.1<base.length)/\(C->RegX P ops d a os' e m M R->RegX P ops d acc (o::os) (ap base u) n L R):=by
      intro acc' hacc h;obtain⟨D,h1,h2⟩:=qz h;obtain⟨k1,k2⟩:=ih _ _ _ _ _ _ _ _ _ _ _ (kS hs) h1;have ku:=kT k1;refine⟨ku,λhC k=>?_⟩;obtain⟨hc1,hc2⟩:=h2 hC;rw[rY hs ku] at ha hw;rw[j0] at hw;obtain⟨q1,q2⟩:=yM (show F5 P o (ap base u) n L=_ from ha) hc1;refine RegX.op hw q1 q2 ?_;have:=k2 hc2 k;rw[nr hs,hacc] at this;exact this
     cases d with
     |true=>exact go _ rfl h
     |false=>exact go _ rfl h
    ·exact stop h
  ·rename_i hw
   rw[cD] at h
   have go:∀ (acc':List Row),acc'=aG d o [] [] acc->il P ops d base true os acc' (rQ o.dst .undef u) n L=some (a,os',e,m,M,C)->(∀ y∈u,y.1<base.length)/\(C->RegX P ops d a os' e m M R->RegX P ops d acc (o::os) (ap base u) n L R):=by
    intro acc' hacc h;obtain⟨k1,k2⟩:=ih _ _ _ _ _ _ _ _ _ _ _ (kS hs) h;have ku:=kT k1;refine⟨ku,λhC k=>?_⟩;rw[rY hs ku,j0] at hw;refine RegX.skip hw ?_;have:=k2 hC k;rw[nr hs,hacc] at this;exact this
   cases d with
   |true=>exact go _ rfl h
   |false=>exact go _ rfl h
  ·exact stop h
theorem RegX.chunk {e:List V} (h:il P ops d env false os acc [] n L=some (a,os',e,m,M,C)) (hC:C) (k:RegX P ops d a os' e m M R):RegX P ops d acc os env n L R:=
 (EJ os false acc [] n L a os' e m M C trivial h).2 hC k
theorem RegX.opA (ans:List Ans) {v:V} (hw:aY ops env o=some true) (h:Eh P o env n L ans=some ⟨⟨foot,v,wr,n'⟩,as_,C⟩) (hC:C)
 (k:RegX P ops d (aG d o foot wr acc) os (a_ env o.dst v) n' (aw L wr) R):RegX P ops d acc (o::os) env n L R:=by
 obtain⟨h1,h2⟩:=fR h hC;exact RegX.op hw h1 h2 k
theorem rf:∀ {x:S},m5 0 x=true->mJ r x=x:=by
 intro x h
 cases x with
 |ptr a=>rcases a with _|⟨i,o⟩<;>first|rfl|(simp[m5,Nat.blt] at h)
 |slc a n c=>rcases a with _|⟨i,o⟩<;>first|rfl|(simp[m5,Nat.blt] at h)
 |sla i g n=>simp[m5,Nat.blt] at h
 |row i g n=>simp[m5,Nat.blt] at h
 |map a=>rcases a with _|i<;>first|rfl|(simp[m5,Nat.blt] at h)
 |itr r m=>simp[m5,Nat.blt] at h
 |clo f ps=>
  simp only[m5,Z0i] at h
  have:ps=[]:=by
   cases ps with
   |nil=>rfl
   |cons p t=>have:=h p (.head _);simp[Nat.blt] at this
  subst this;rfl
 |opq k t K=>
  have key:∀ t:Tm,t.lt 0=true->t.ren r=t:=by
   intro t
   induction t with
   |v i=>intro h;simp[Tm.lt,Nat.blt] at h
   |c z=>intro _;rfl
   |bin o k a b iha ihb=>intro h;simp only[Tm.lt,Z07] at h;simp only[Tm.ren,iha h.1,ihb h.2]
  simp only[m5] at h;simp only[mJ,key t h]
 |_=>rfl
theorem tJ {l:List S} (h:l.all (m5 0)=true):l.map (mJ r)=l:=by
 induction l with
 |nil=>rfl
 |cons x t ih=>simp only[Z1b,Z07] at h;simp only[Z13,rf h.1,ih h.2]
theorem EM {x:U} (h:Jk 0 x=true):tI r x=x:=by
 cases x with
 |s x=>simp only[tI,rf (show m5 0 x=true from h)]
 |agg l=>simp only[tI,tJ (show l.all (m5 0)=true from h)]
theorem mU {x:V} (h:fp 0 x=true):bW r x=x:=by
 cases x with
 |any=>rfl
 |undef=>rfl
 |s x=>simp only[bW,rf (show m5 0 x=true from h)]
 |agg l=>simp only[bW,tJ (show l.all (m5 0)=true from h)]
 |tup l=>
  have:∀ l:List U,l.all (Jk 0)=true->l.map (tI r)=l:=by
   intro l
   induction l with
   |nil=>intro _;rfl
   |cons x t ih=>intro h;simp only[Z1b,Z07] at h;simp only[Z13,EM h.1,ih h.2]
  simp only[bW,this l h]
 |w i g sz k m=>simp[fp,Nat.blt] at h
theorem tH {l:List V} (h:l.all (fp 0)=true):l.map (bW r)=l:=by
 induction l with
 |nil=>rfl
 |cons x t ih=>simp only[Z1b,Z07] at h;simp only[Z13,mU h.1,ih h.2]
end
section
variable {P:Program} {b:Nat} {env:List V} {n:Nat} {L:Hp} {R:Post}
theorem Ex.condT (hc:ev env c=.s (.bool true)) (h:Ex P b x env n L R):Ex P b (.cond c x y) env n L R:=Ex.cond hc h
theorem Ex.condF (hc:ev env c=.s (.bool false)) (h:Ex P b y env n L R):Ex P b (.cond c x y) env n L R:=Ex.cond hc h
theorem Ex.condS (hc:ev env c=.s (.bool t)) (h1:t=true->Ex P b x env n L R) (h2:t=false->Ex P b y env n L R):Ex P b (.cond c x y) env n L R:=by
 refine Ex.cond hc ?_
 cases t with
 |true=>exact h1 rfl
 |false=>exact h2 rfl
end
def Fin (P:Program) (fn:Func) (n:Nat) (v:V) (n':Nat) (L':Hp):Post:=λx env m M=>(x=.ret\/x=.normal)/\∃ v1 new,VLe v1 v/\EndOK P fn n v1 n' L' new env M
theorem SC.walk {f:FuncId} {c:Code} {args:List V} {v:V} {L':Hp} (hf:P.funcs[f]? =some fn) (hb:fn.body=some c) {env:List V} (he:args++List.replicate (fn.ntmps-args.length) .undef=env)
 (h:Ex P n c env n L (Fin P fn n v n' L')):SC P f args n L v n' L':=SC.intro hf hb (he▸h)
def FC (P:Program) (f:FuncId) (args:List V) (n:Nat) (L:Hp) (v:V) (n':Nat) (L':Hp):Prop:=mM P f=true/\SC P f args n L v n' L'
theorem FC.walk {f:FuncId} {c:Code} {args:List V} {v:V} {L':Hp} (hok:mM P f=true) (hf:P.funcs[f]? =some fn) (hb:fn.body=some c) {env:List V} (he:args++List.replicate (fn.ntmps-args.length) .undef=env)
 (h:Ex P n c env n L (Fin P fn n v n' L')):FC P f args n L v n' L':=⟨hok,SC.walk hf hb he h⟩
theorem Fin.le {v v':V} {env:List V} {x:Exit} (hx:x=.ret\/x=.normal) (h1:fU P fn env M=some v') (h2:VLe v' v) (h3:fp 0 v'=true):Fin P fn 0 v 0 [] x env m M:=
 ⟨hx,v',[],h2,EndOK.plain (by rw[mU h3,h1]) HS h3 rfl⟩
theorem Fin.plain {v v':V} {env:List V} {x:Exit} (hx:x=.ret\/x=.normal) (h1:fU P fn env M=some v') (h2:v'=v) (h3:fp 0 v'=true):Fin P fn 0 v 0 [] x env m M:=
 Fin.le hx h1 (h2▸VLe.refl _) h3
theorem Fin.bool {x y:Bool} {env:List V} {e:Exit} (hx:e=.ret\/e=.normal) (h1:fU P fn env M=some (.s (.bool x))) (h2:x=y):Fin P fn 0 (.s (.bool y)) 0 [] e env m M:=
 Fin.plain hx h1 (by rw[h2]) rfl
theorem Fin.int {k:IntKind} {x y:Int} {env:List V} {e:Exit} (hx:e=.ret\/e=.normal) (h1:fU P fn env M=some (.s (.int k x))) (h2:x=y):Fin P fn 0 (.s (.int k y)) 0 [] e env m M:=
 Fin.plain hx h1 (by rw[h2]) rfl
theorem Fin.str {x y:List UInt8} {env:List V} {e:Exit} (hx:e=.ret\/e=.normal) (h1:fU P fn env M=some (.s (.str x))) (h2:x=y):Fin P fn 0 (.s (.str y)) 0 [] e env m M:=
 Fin.plain hx h1 (by rw[h2]) rfl
end
section
variable {i m sz g n:Nat} {get:Nat->List S} {l l':List S}
def SLe (a b:S):Prop:=∀ (φ:Ph) (x:Value),Sr φ a x->Sr φ b x
def ULe (a b:U):Prop:=∀ (φ:Ph) (x:Value),Ur φ a x->Ur φ b x
theorem SLe.refl (a:S):SLe a a:=λ_ _ h=>h
theorem VLe.of_eq {a b:V} (h:a=b):VLe a b:=h▸VLe.refl _
theorem VLe.any (a:V):VLe a .any:=λ_ _ _=>trivial
theorem VLe.s {a b:S} (h:SLe a b):VLe (.s a) (.s b):=λφ x hx=>h φ x hx
theorem SLe.alls (h:All2 SLe l l'):∀ {φ:Ph} {xs:List Value},All2 (Sr φ) l xs->All2 (Sr φ) l' xs:=by
 induction l generalizing l' with
 |nil=>intro φ xs k;cases l' with
  |nil=>exact k
  |cons _ _=>exact h.elim
 |cons a t ih=>intro φ xs k;cases l' with
  |nil=>exact h.elim
  |cons b t'=>cases xs with
   |nil=>exact k.elim
   |cons x xs=>exact⟨h.1 φ x k.1,ih h.2 k.2⟩
theorem ULe.alls {l l':List U} (h:All2 ULe l l'):∀ {φ:Ph} {xs:List Value},All2 (Ur φ) l xs->All2 (Ur φ) l' xs:=by
 induction l generalizing l' with
 |nil=>intro φ xs k;cases l' with
  |nil=>exact k
  |cons _ _=>exact h.elim
 |cons a t ih=>intro φ xs k;cases l' with
  |nil=>exact h.elim
  |cons b t'=>cases xs with
   |nil=>exact k.elim
   |cons x xs=>exact⟨h.1 φ x k.1,ih h.2 k.2⟩
theorem VLe.agg (h:All2 SLe l l'):VLe (.agg l) (.agg l'):=λφ x ⟨xs,e,k⟩=>⟨xs,e,SLe.alls h k⟩
theorem ULe.s {a b:S} (h:SLe a b):ULe (.s a) (.s b):=λφ x hx=>h φ x hx
theorem ULe.agg (h:All2 SLe l l'):ULe (.agg l) (.agg l'):=λφ x ⟨xs,e,k⟩=>⟨xs,e,SLe.alls h k⟩
theorem VLe.tup {l l':List U} (h:All2 ULe l l'):VLe (.tup l) (.tup l'):=λφ x ⟨xs,e,k⟩=>⟨xs,e,ULe.alls h k⟩
theorem SLe.nil {c:Option Nat}:SLe (.slc none m c) (.frz get sz 0):=λφ x h=>by
 obtain⟨_,_,rfl⟩:=h;exact .nil _ _ _ _ (λ_=>rfl)
theorem SLe.row0:SLe (.row i g 0) (.frz get sz 0):=λφ x h=>by
 rcases h with ⟨_,rfl⟩|⟨h,_⟩
 ·exact .nil _ _ _ _ (λ_=>rfl)
 ·omega
theorem SLe.nilrow {c:Option Nat}:SLe (.slc none m c) (.row i g 0):=λφ x h=>by
 obtain⟨_,_,rfl⟩:=h;exact .inl ⟨rfl,rfl⟩
theorem SLe.slarow (h:0<n):SLe (.sla i g n) (.row i g n):=λφ x k=> .inr ⟨h,k⟩
theorem SLe.rowsla (h:0<n):SLe (.row i g n) (.sla i g n):=λφ x k=>by
 rcases k with ⟨e,_⟩|⟨_,k⟩
 ·omega
 ·exact k
theorem SLe.frz {get':Nat->List S} (h:∀ i,i<n->get i=get' i):SLe (.frz get sz n) (.frz get' sz n):=λφ x k=>by
 cases k with
 |nil get sz a k hk=>exact .nil _ _ _ _ hk
 |frz get sz n b o k vs h1 hn val hl hv hx=>
  exact .frz _ _ _ _ _ _ vs h1 hn val (λi hi=>by rw[<-h i hi];exact hl i hi) (λi j x hi hg=>hv i j x hi (by rw[h i hi];exact hg)) (λi j x hi hg=>hx i j x hi (by rw[h i hi];exact hg))
section
variable {P:Program} {b:Nat} {c:Code} {env:List V} {n:Nat} {L:Hp} {R:Post}
theorem Ex.le {env':List V} (h:All2 VLe env env') (k:Ex P b c env' n L R):Ex P b c env n L R:=by
 intro φ a w h1 h2 h3 h4;exact k φ a w ⟨h1.1,VLe.all h h1.2⟩ h2 h3 h4
theorem yO:∀ {env:List V} {t:Nat} {v:V},VLe (env.getD t .undef) v->All2 VLe env (env.set t v)
 |[],_,_,_=>trivial
 |x::e,0,v,h=>⟨h,VLe.refls e⟩
 |x::e,t+1,v,h=>⟨VLe.refl x,yO (env:=e) h⟩
theorem Ex.set (t:Nat) (v:V) (h:VLe (env.getD t .undef) v) {env':List V} (he:env.set t v=env') (k:Ex P b c env' n L R):Ex P b c env n L R:=
 Ex.le (he▸yO h) k
theorem Ex.sub {L':Hp} (h:vv L' L) (k:Ex P b c env n L' R):Ex P b c env n L R:=by
 intro φ a w h1 h2 h3 h4;refine wp_mono (k φ a w h1 (h2.sub h) h3 h4) ?_;rintro x a' w' ⟨φ',e,m,M,hR,k1,k2,k3,k4,k5,k6⟩;refine⟨φ',e,m,M,hR,k1,k2,k3,k4,⟨k5.os,k5.tape,k5.output,k5.size,λb hb hn=>k5.keep b hb λhw=>hn (hw.sub h),λj bl b hj hb hlt=>?_,k5.zle,λx l hx=>?_⟩,k6⟩
 ·obtain⟨k,bl',c,hk,rest⟩:=k5.fresh j bl b hj hb hlt
  exact⟨k,bl',c,h _ _ hk,rest⟩
 ·rcases k5.zfr x l hx with q|q|q
  ·exact .inl q
  ·exact .inr (.inl q)
  ·exact .inr (.inr (q.sub h))
def bE:S->Bool
 | .bool _=>true
 | .int _ _=>true
 | .str _=>true
 | .frz _ _ _=>true
 | .unk=>true
 | .cst _=>true
 |_=>false
theorem Sr.pr {φ:Ph} {x:S} {v:Value} (h:Sr φ x v) (hp:bE x=true):Pr φ.z x v:=by
 cases x with
 |bool b=>simp only[Sr] at h;subst h;exact .bool b
 |int k n=>simp only[Sr] at h;subst h;exact .int k n
 |str l=>simp only[Sr] at h;subst h;exact .str l
 |unk=>exact .unk v h
 |cst u=>obtain⟨rfl,h⟩:=h;exact .cst v h
 |frz get sz n=>exact h
 |_=>cases hp
def dF:V->Option (Nat×Nat)
 | .s (.sla j _ n)=>some (j,n)
 | .s (.slc (some (j,0)) n _)=>some (j,n)
 | .s (.row j _ n)=>some (j,n)
 |_=>none
theorem Ex.fz (t:Nat) (get:Nat->List S) (sz:Nat) {N:Nat} {bl:Bl} (ht:dF (env.getD t .undef)=some (i,N)) (hl:lk L i=some bl) (hro:bl.ro=false) (hk:bl.kind=none)
 (hg:∀ k,k<N->(get k).length=sz) (hc:∀ k j x,k<N->(get k)[j]? =some x->bl.cells[k*sz+j]? =some x/\bE x=true)
 {env':List V} (he:env.set t (.s (.frz get sz N))=env') {L':Hp} (hL:put L i none=L') (k:Ex P b c env' n L' R):Ex P b c env n L R:=by
 subst he;subst hL;intro φ a w h1 h2 h3 h4;obtain⟨b0,hb0,pre,xs,rest,fr,p1,hp,p2,p3,p4,p5⟩:=h2.hr i bl hl;rw[hk] at p1;simp only[c_] at p1
 let φ':Ph:=⟨φ.f,λx=>if x=b0.1 then some (pre++(xs++rest)) else φ.z x⟩
 have hz0:φ.z b0.1=none:=by
  cases e:φ.z b0.1 with
  |none=>rfl
  |some l=>exact absurd ⟨i,bl,b0,hl,hb0,rfl,hro⟩ (h2.fz b0.1 l e).2
 have zle:∀ x l,φ.z x=some l->φ'.z x=some l:=by
  intro x l hx;simp only[φ'];split
  ·rename_i e;subst e;rw[hz0] at hx;cases hx
  ·exact hx
 have hle:φ.le φ':=⟨λ_ _ h=>h,zle⟩
 have hlt:b0.1<w.heap.size:=by
  rcases Z0a b0.1 w.heap.size with h|h
  ·exact h
  ·simp[Z32 h] at p1
 have sub:vv (put L i none) L:=by
  intro j bj hj;rw[az] at hj;split at hj
  ·cases hj
  ·exact hj
 have good':Good φ' (put L i none) w:=by
  refine⟨λj bj hj=>?_,λj j' bj bj' c c' hj hj' hc hc' hcc=>h2.inj j j' bj bj' c c' (sub j bj hj) (sub j' bj' hj') hc hc' hcc,λx l hx=>?_,h2.gz.mono zle⟩
  ·obtain⟨c,hc,hat⟩:=h2.hr j bj (sub j bj hj)
   exact⟨c,hc,hat.mono hle rfl⟩
  ·by_cases e:x=b0.1
   ·subst e
    simp only[φ',if_true,Z06] at hx;subst hx;refine⟨⟨bl.ty,fr,p1⟩,?_⟩;rintro⟨j,bj,c,hj,hc,hcb,hroj⟩;have hj':=sub j bj hj
    rcases h2.inj j i bj bl c b0 hj' hl hc hb0 hcb with rfl|⟨e,_⟩
    ·rw[az,if_pos rfl] at hj;cases hj
    ·rw[e] at hroj;cases hroj
   ·simp only[φ',if_neg e] at hx
    exact⟨(h2.fz x l hx).1,λhw=>(h2.fz x l hx).2 (Wr.sub sub (by obtain⟨j,bj,c,hj⟩:=hw;exact⟨j,bj,c,hj⟩))⟩
 have hfz:∀ m kk,m<=N->m<=kk->Sr φ' (.frz get sz m) (.slice (some ⟨b0.1,b0.2,none⟩) m kk):=by
  intro m kk hm hmk;refine .frz get sz m b0.1 b0.2 kk (pre++(xs++rest)) (by simp[φ']) hmk (λk j=>xs.getD (k*sz+j) Go.undef) (λk hk=>hg k aa) (λk j x hk hx=>?_) (λk j x hk hx=>?_)
  ·obtain⟨e,_⟩:=hc k j x aa hx
   obtain⟨v,hv,_⟩:=p2.get e
   have hlx:k*sz+j<xs.length:=by
    rcases Z0a (k*sz+j) xs.length with h|h
    ·exact h
    ·simp[Z0b h] at hv
   rw[Z4k b0.2,f_ pre _ hp,Z0x hlx,Z00,hv];rfl
  ·obtain⟨e,hpx⟩:=hc k j x aa hx
   obtain⟨v,hv,hs⟩:=p2.get e;rw[Z00,hv,Z22];exact ((hs.mono (bl.ph_le_self φ)).mono hle).pr hpx
 have env':All2 (Vr φ') (env.set t (.s (.frz get sz N))) a.tmps.toList:=by
  have hall:=h1.2.mono (λ_ _=>Vr.mono hle)
  have hv:=(EnvR.slot (t:=t) ⟨h1.1,h1.2⟩)
  have hval:Vr φ' (.s (.frz get sz N)) (a.tmps.getD t Go.undef):=by
   generalize env.getD t .undef=v at ht hv;unfold dF at ht;split at ht
   ·cases ht
    obtain⟨b1,kk,hb1,_,e,hmk⟩:=hv;rw[hb0] at hb1;cases hb1;rw[e];exact hfz _ kk (Z02 _) hmk
   ·cases ht
    obtain⟨b1,kk,hb1,e,hmk,_⟩:=hv;rw[hb0] at hb1;cases hb1;rw[e,Z0c];exact hfz _ kk (Z02 _) hmk
   ·cases ht
    rcases hv with ⟨rfl,e⟩|⟨_,b1,kk,hb1,_,e,hmk⟩
    ·rw[e];exact .nil _ _ _ _ (λ_=>rfl)
    ·rw[hb0] at hb1;cases hb1
     rw[e];exact hfz _ kk (Z02 _) hmk
   ·cases ht
  have key:∀ (e:List V) (ys:List Value) (t:Nat) (v:V),All2 (Vr φ') e ys->Vr φ' v (ys.getD t Go.undef)->All2 (Vr φ') (e.set t v) ys:=by
   intro e
   induction e with
   |nil=>intro ys t v h _;exact h
   |cons u e ih=>intro ys t v h hv;cases ys with
    |nil=>exact h.elim
    |cons y ys=>cases t with
     |zero=>exact⟨hv,h.2⟩
     |succ t=>exact⟨h.1,ih ys t v h.2 hv⟩
  refine key _ _ _ _ hall ?_
  have e:a.tmps.toList.getD t Go.undef=a.tmps.getD t Go.undef:=by simp[Z1x,Z00]
  rw[e];exact hval
 refine wp_mono (k φ' a w ⟨h1.1,env'⟩ good' h3 h4) ?_;rintro x a' w' ⟨φ2,e,m,M,hR,k1,k2,k3,k4,k5,k6⟩;refine⟨φ2,e,m,M,hR,k1,k2,k3,k4,⟨k5.os,k5.tape,k5.output,k5.size,λd hd hn=>k5.keep d hd λhw=>hn (Wr.sub sub (by obtain⟨j,bj,c,hj⟩:=hw;exact⟨j,bj,c,hj⟩)),λj bl1 d hj hd hlt'=>?_,λx l hx=>k5.zle x l (zle x l hx),λx l hx=>?_⟩,k6⟩
 ·obtain⟨kk,bl',c,hkk,rest'⟩:=k5.fresh j bl1 d hj hd hlt'
  exact⟨kk,bl',c,sub _ _ hkk,rest'⟩
 ·rcases k5.zfr x l hx with q|q|q
  ·by_cases e:x=b0.1
   ·subst e;exact .inr (.inr ⟨i,bl,b0,hl,hb0,rfl,hro⟩)
   ·simp only[φ',if_neg e] at q;exact .inl q
  ·exact .inr (.inl q)
  ·exact .inr (.inr (Wr.sub sub (by obtain⟨j,bj,c,hj⟩:=q;exact⟨j,bj,c,hj⟩)))
def Iy:List Oper->List Nat->List Nat
 |[],acc=>acc
 |o::t,acc=>match o.dst with|some d=>Iy t (d::acc)|none=>Iy t acc
def Iz:Code->List Nat->List Nat
 | .seq x y,acc=>Iz x (Iz y acc)
 | .cond _ x y,acc=>Iz x (Iz y acc)
 | .block _ c,acc=>Iz c acc
 | .loop c,acc=>Iz c acc
 | .region _ ops _,acc=>Iy ops.toList acc
 |_,acc=>acc
def qM (A:List Nat) (X:List (Nat×V)):Nat->List V->List V
 |_,[]=>[]
 |i,v::t=>(match hY X i with|some x=>x|none=>match A.elem i with|true=> .any|false=>v)::qM A X (i+1) t
def tU (A:List Nat) (X:List (Nat×V)):Nat->List V->List V
 |_,[]=>[]
 |i,v::t=>(match hY X i with|some _=> .any|none=>match A.elem i with|true=> .any|false=>v)::tU A X (i+1) t
def XLe (e:List V):List (Nat×V)->Prop
 |[]=>True
 |(t,v)::r=>VLe (e.getD t .undef) v/\XLe e r
theorem XLe.at {e:List V}:∀ {X:List (Nat×V)} {i:Nat} {v:V},XLe e X->hY X i=some v->VLe (e.getD i .undef) v
 |(j,u)::t,i,v,h,hf=>by
  simp only[hY] at hf;split at hf
  ·rename_i hb
   have:=Z0q hb;subst this;cases hf;exact h.1
  ·exact XLe.at h.2 hf
 |[],_,_,_,h=>by simp[hY] at h
theorem qL {A:List Nat} {X:List (Nat×V)}:∀ {env e:List V} {k:Nat},tU A X k env=tU A X k e->(∀ i v,hY X (k+i)=some v->VLe (e.getD i .undef) v)->All2 VLe e (qM A X k env)
 |[],[],k,_,_=>trivial
 |[],_::_,k,h,_=>by simp[tU] at h
 |_::_,[],k,h,_=>by simp[tU] at h
 |u::env,v::e,k,h,hx=>by
  simp only[tU,Z4s] at h;simp only[qM]
  refine⟨?_,qL h.2 λi y hi=>by
   have:=hx (i+1) y (by rw[<-hi];congr 1;omega)
   simpa using this⟩
  have h0:=λy=>hx 0 y
  simp only[Z0p,Z34] at h0;split
  ·rename_i x hf;exact h0 x hf
  ·rename_i hf
   have h1:=h.1;simp only[hf] at h1;split
   ·exact VLe.any _
   ·rename_i ha
    simp only[ha] at h1;rw[h1];exact VLe.refl _
def SubP (M:Hp):Hp->Prop
 |[]=>True
 |(_,none)::t=>SubP M t
 |(i,some bl)::t=>lk M i=some bl/\SubP M t
theorem SubP.sub {M:Hp}:∀ {L:Hp},SubP M L->vv L M
 |(j,none)::t,h,i,bl,hi=>by
  rw[bd] at hi;split at hi
  ·cases hi
  ·exact SubP.sub (L:=t) h i bl hi
 |(j,some c)::t,h,i,bl,hi=>by
  rw[bd] at hi;split at hi
  ·rename_i e;subst e;cases hi;exact h.1
  ·exact SubP.sub (L:=t) h.2 i bl hi
 |[],_,i,bl,hi=>by simp[lk] at hi
def fY {β:Type}:List V->List V->(List V->β)->β
 |[],acc,k=>rv acc [] k
 |v::t,acc,k=>
  match v with
  | .any=>fY t (.any::acc) k
  | .undef=>fY t (.undef::acc) k
  | .s x=>fY t (.s x::acc) k
  | .agg l=>fY t (.agg l::acc) k
  | .tup l=>fY t (.tup l::acc) k
  | .w i g sz j m=>fY t (.w i g sz j m::acc) k
theorem uJ {β:Type} (k:List V->β):∀ (l acc:List V),fY l acc k=k (acc.reverse++l)
 |[],acc=>by simp only[fY];rw[xL]
 |v::t,acc=>by cases v<;>(simp only[fY];rw[uJ k t];simp)
theorem jk {β:Type} (k:List V->β) (l:List V):fY l [] k=k l:=by rw[uJ];rfl
def LoopR {σ:Type} (b m:Nat) (A:List Nat) (X:σ->List (Nat×V)) (env:List V) (H:σ->Hp) (I:σ->Prop) (mu:σ->Nat) (s:σ) (R:Post):Post
 | .normal,e,_,M=>∃ s',I s'/\mu s'<mu s/\To b m e M (qM A (X s') 0 env) (H s')
 |x,e,m',M=>R x e m' M
theorem Ex.inv {σ:Type} (X:σ->List (Nat×V)) (H:σ->Hp) (I:σ->Prop) (mu:σ->Nat) (s0:σ) {A:List Nat} (hA:li (Iz c []) [] some=some A) {E:σ->List V} (hE:∀ s,fY (qM A (X s) 0 env) [] some=some (E s))
 (i0:I s0) (x0:XLe env (X s0)) (h0:SubP L (H s0)) (step:∀ s,I s->Ex P b c (E s) n (H s) (LoopR b n A X env H I mu s R)):Ex P b (.loop c) env n L R:=by
 have hE':∀ s,qM A (X s) 0 env=E s:=λs=>by have:=hE s;rw[jk] at this;exact Z1c this
 refine Ex.sub h0.sub (Ex.le (env':=E s0) (hE' s0▸qL rfl λi v hf=>x0.at (by simpa using hf)) ?_);intro φ a w k1 k2 k3 k4;refine Ex.loopT (λk env L=>∃ s,I s/\mu s<=k/\env=E s/\L=H s) k4 ?_ ?_ (mu s0) (E s0) (H s0) ⟨s0,i0,Z02 _,rfl,rfl⟩ φ a w k1 k2 k3 k4
 ·rintro k env L ⟨s,hI,hmu,rfl,rfl⟩
  refine (step s hI).mono ?_;intro x e m M hR
  cases x with
  |normal=>
   obtain⟨s',hI',hlt,ht⟩:=hR;exact .inl ⟨rfl,_,_,ht,s',hI',aa,hE' s',rfl⟩
  |_=>exact .inr ⟨an,hR⟩
 ·rintro env L ⟨s,hI,hmu,rfl,rfl⟩
  refine (step s hI).mono ?_;intro x e m M hR
  cases x with
  |normal=>
   obtain⟨s',hI',hlt,ht⟩:=hR;omega
  |_=>exact⟨an,hR⟩
theorem To.same {e e':List V} {M M':Hp} (h1:All2 VLe e e') (h2:SubP M M') (h3:e'.all (fp m)=true) (h4:eV m M'=true) (hb:b<=m):To b m e M e' M':=by
 intro φ₀ φ L₀ w₀ w a k1 k2 k3
 have st:Stp φ₀ L₀ w₀ φ M' w:=⟨k3.os,k3.tape,k3.output,k3.size,k3.keep,λj bl b hj=>k3.fresh j bl b (h2.sub j bl hj),k3.zle,k3.zfr⟩
 refine⟨aF m φ,⟨k1.1,jo (VLe.all h1 k1.2) h3⟩,(k2.sub h2.sub).cut h4,λi hi=>by simp[aF];omega,⟨st.os,st.tape,st.output,st.size,st.keep,λj bl c hj hc=>?_,st.zle,st.zfr⟩,λi hi=>by simp[aF];omega⟩;simp only[aF] at hc;split at hc
 ·exact st.fresh j bl c hj hc
 ·cases hc
theorem LoopR.same {σ:Type} {A:List Nat} {X:σ->List (Nat×V)} {env:List V} {H:σ->Hp} {I:σ->Prop} {mu:σ->Nat} {s:σ} {e:List V} {m':Nat} {M:Hp} (s':σ) (hI:I s') (hmu:mu s'<mu s)
 (h1:tU A (X s') 0 env=tU A (X s') 0 e) (hx:XLe e (X s')) (h2:SubP M (H s')) (h3:(qM A (X s') 0 env).all (fp m)=true) (h4:eV m (H s')=true) (hb:b<=m):
 LoopR b m A X env H I mu s R .normal e m' M:=
 ⟨s',hI,hmu,To.same (qL h1 λi v hf=>hx.at (by simpa using hf)) h2 h3 h4 hb⟩
end
end
section
variable {K:Bool->Prop} {G p C:Prop} {n i m n0' n':Nat} {L wr M L0 L0':Hp} {R:Post} {P:Program} {a:Int} {y c:Code} {dst:Option Tmp} {pos:String} {af:Array Edge} {gd:Option (Nat×Bool)}
section
variable {P:Program} {b:Nat} {ops:Array Oper} {d:Bool} {acc:List Row} {os:List Oper} {o:Oper} {env:List V} {n:Nat} {L:Hp} {R:Post}
structure CallG (P:Program) (ops:Array Oper) (d:Bool) (acc:List Row) (o:Oper) (f:FuncId) (xs:Array Operand) (os:List Oper) (env:List V) (n:Nat) (L:Hp) (R:Post):Prop where
 k:(∃ ts,o.op=.call {callee:=.value (.func f),args:=xs,argTypes:=ts})->RegX P ops d acc (o::os) env n L R
theorem RegX.atCall {f:FuncId} {xs:Array Operand} {ts:Array TypeId} {t:TypeId}
 (h:CallG P ops d acc ⟨dst,.call ⟨.value (.func f),xs,ts⟩,t,pos,af,gd⟩ f xs os env n L R):RegX P ops d acc (⟨dst,.call ⟨.value (.func f),xs,ts⟩,t,pos,af,gd⟩::os) env n L R:=h.k ⟨ts,rfl⟩
structure CmpG (P:Program) (ops:Array Oper) (d:Bool) (acc:List Row) (o:Oper) (os:List Oper) (env:List V) (n:Nat) (L:Hp) (R:Post):Prop where
 k:RegX P ops d acc (o::os) env n L R
theorem RegX.atCmp {op:BinOp} {ty ty':TypeId} {x y:Operand} {t:TypeId}
 (h:CmpG P ops d acc ⟨dst,.binOp op ty x y ty',t,pos,af,gd⟩ os env n L R):RegX P ops d acc (⟨dst,.binOp op ty x y ty',t,pos,af,gd⟩::os) env n L R:=h.k
variable {f:FuncId} {xs:Array Operand}
theorem CallG.is (f:FuncId) (h:CallG P ops d acc o f xs os env n L R):CallG P ops d acc o f xs os env n L R:=h
theorem CallG.we {args:List V} {v:V} (sc:FC P f args 0 [] v 0 []) {args1:List V} (ha:xs.toList.map (ev env)=args1) (hle:All2 VLe args1 args) (h1:args.all (fp 0)=true) (h2:fp 0 v=true)
 (hw:aY ops env o=some true) (k:RegX P ops d (aG d o [] [] acc) os (a_ env o.dst v) n L R):CallG P ops d acc o f xs os env n L R:=by
 refine⟨λ⟨ts,ho⟩=>?_⟩;obtain⟨hf,sc⟩:=sc;unfold mM at hf;split at hf
 ·rename_i fn hfn
  simp only[Z07,Z0v] at hf;have h:=SC.opW (tbl:=[]) (n:=n) (env:=env) (M:=[]) (M':=[]) sc h1 rfl ho rfl hfn hf.1 hf.2 (by rw[ha,tH h1];exact hle) uM (λx bl h=>by simp[lk] at h);rw[mU h2] at h;exact RegX.op (foot:=[]) (wr:=[]) hw h (Z02 _) k
 ·cases hf
theorem CallG.pu {args:List V} {v:V} (sc:FC P f args 0 [] v 0 []) (ha:xs.toList.map (ev env)=args) (h1:args.all (fp 0)=true) (h2:fp 0 v=true)
 (hw:aY ops env o=some true) (k:RegX P ops d (aG d o [] [] acc) os (a_ env o.dst v) n L R):CallG P ops d acc o f xs os env n L R:=
 CallG.we sc ha (VLe.refls _) h1 h2 hw k
theorem CallG.me (tbl:List Nat) {args0:List V} {v0:V} (sc:FC P f args0 tbl.length L0 v0 n0' L0')
 (hchk:(args0.all (fp tbl.length)&&eV tbl.length L0&&dZ L0 L0'&&ce (bw L0')&&Nat.ble tbl.length n0'&&rC tbl n n0'&&sH tbl L0)=true) {args1:List V} (ha:xs.toList.map (ev env)=args1) (hle:All2 VLe args1 (args0.map (bW (rn tbl n)))) (ft:FitP tbl n (res tbl L) L0)
 (hw:aY ops env o=some true) {v:V} (hv:iR (bW (rn tbl n) v0) some=some v) {wr:Hp} (hwr:li (b_ tbl n L0 L0') [] some=some wr)
 (k:RegX P ops d (aG d o tbl wr acc) os (a_ env o.dst v) (n+(n0'-tbl.length)) (aw L wr) R):CallG P ops d acc o f xs os env n L R:=by
 refine⟨λ⟨ts,ho⟩=>?_⟩;obtain⟨hf,sc⟩:=sc;rw[eA] at hv;cases hv;rw[cD] at hwr;cases hwr;simp only[Z07] at hchk;obtain⟨⟨⟨⟨⟨⟨k1,k2⟩,k3⟩,k4⟩,k5⟩,k6⟩,k7⟩:=hchk;unfold mM at hf;split at hf
 ·rename_i fn hfn
  simp only[Z07,Z0v] at hf;have h:=SC.opW (n:=n) (env:=env) (M:=res tbl L) sc k1 k2 ho rfl hfn hf.1 hf.2 (ha▸hle) (Fits.of k6 k7 ft) (fm k3 k4);exact RegX.op hw h (Z1o _ _) k
 ·cases hf
theorem CallG.xt {args:List V} {v:V} (hx:XT P f args v) (ha:xs.toList.map (ev env)=args)
 (hw:aY ops env o=some true) (k:RegX P ops d (aG d o [] [] acc) os (a_ env o.dst v) n L R):CallG P ops d acc o f xs os env n L R:=by
 refine⟨λ⟨ts,ho⟩=>?_⟩;have h:=XT.op (n:=n) (L:=[]) (env:=env) ho rfl (by rw[ha];exact hx);exact RegX.op (foot:=[]) (wr:=[]) hw h (Z02 _) k
theorem RegX.nilF (h2:R .normal env n L):RegX P ops false acc [] env n L R:=RegX.nil (by trivial) h2
theorem RegX.nilT (h1:im ops acc.reverse=true) (h2:R .normal env n L):RegX P ops true acc [] env n L R:=RegX.nil h1 h2
structure BrG (t:Bool) (K:Bool->Prop):Prop where
 k:K t
theorem CmpG.go {foot:List Nat} {t:Bool} {as_:List Ans} (hw:aY ops env o=some true) (h:Eh P o env n L []=some ⟨⟨foot,.s (.bool t),wr,n'⟩,as_,C⟩) (hC:C)
 (k:BrG t λt=>RegX P ops d (aG d o foot wr acc) os (a_ env o.dst (.s (.bool t))) n' (aw L wr) R):CmpG P ops d acc o os env n L R:=⟨RegX.opA [] hw h hC k.k⟩
theorem BrG.tt (h:K true):BrG true K:=⟨h⟩
theorem BrG.ff (h:K false):BrG false K:=⟨h⟩
theorem BrG.of {t:Bool} (hp:t=true↔p) (h1:p->K true) (h2: ¬p->K false):BrG t K:=by
 cases t with
 |true=>exact⟨h1 (hp.1 rfl)⟩
 |false=>exact⟨h2 λe=>by have:=hp.2 e;cases this⟩
theorem BrG.neS {a b:List UInt8} (h1: ¬a=b->K true) (h2:a=b->K false):BrG (!decide (a=b)) K:=BrG.of an h1 λh=>h2 (Z4c.1 h)
theorem BrG.any {t:Bool} (h1:t=true->K true) (h2:t=false->K false):BrG t K:=by
 cases t with
 |true=>exact⟨h1 rfl⟩
 |false=>exact⟨h2 rfl⟩
theorem CallG.bo {args:List V} {t:Bool} (sc:FC P f args 0 [] (.s (.bool t)) 0 []) (ha:xs.toList.map (ev env)=args) (h1:args.all (fp 0)=true)
 (hw:aY ops env o=some true) (k:BrG t λt=>RegX P ops d (aG d o [] [] acc) os (a_ env o.dst (.s (.bool t))) n L R):CallG P ops d acc o f xs os env n L R:=CallG.pu sc ha h1 rfl hw k.k
theorem CallG.wb {args:List V} {t:Bool} (sc:FC P f args 0 [] (.s (.bool t)) 0 []) {args1:List V} (ha:xs.toList.map (ev env)=args1) (hle:All2 VLe args1 args) (h1:args.all (fp 0)=true)
 (hw:aY ops env o=some true) (k:BrG t λt=>RegX P ops d (aG d o [] [] acc) os (a_ env o.dst (.s (.bool t))) n L R):CallG P ops d acc o f xs os env n L R:=CallG.we sc ha hle h1 rfl hw k.k
theorem Then.normal {b:Nat} {e:List V} (h:Ex P b y e n L R):Then P b y R .normal e n L:=h
theorem InBlock.normal {e:List V} (h:R .normal e n L):InBlock i R .normal e n L:=h
theorem InBlock.exit {j:Nat} {e:List V} (h:match Nat.beq j i with|true=>R .normal e n L|false=>R (.exit j) e n L):InBlock i R (.exit j) e n L:=h
theorem InBlock.here {e:List V} (h:R .normal e n L):InBlock i R (.exit i) e n L:=by
 show (match Nat.beq i i with|true=>R .normal e n L|false=>R (.exit i) e n L);rw[Z2n];exact h
end
def Gv (P:Program) (b:Nat):Code->List V->Nat->Hp->Post->Option Prop
 | .seq x y,e,n,L,R=>some (Ex P b x e n L (Then P b y R))
 | .block id c,e,n,L,R=>some (Ex P b c e n L (InBlock id R))
 | .skip,e,n,L,R=>some (R .normal e n L)
 | .region _ ops d,e,n,L,R=>some (RegX P ops d [] ops.toList e n L R)
 |_,_,_,_,_=>none
def Gr (P:Program) (b:Nat):Code->List V->Nat->Hp->Post->Option Prop
 | .cond c x y,e,n,L,R=>match ev e c with| .s (.bool true)=>some (Ex P b x e n L R)| .s (.bool false)=>some (Ex P b y e n L R)|_=>none
 |_,_,_,_,_=>none
theorem Ex.s {b:Nat} (hm:P.follows .mixedOrders=true) {e:List V} (h:Gv P b c e n L R=some G) (k:G):Ex P b c e n L R:=by
 unfold Gv at h;split at h
 ·cases h;exact Ex.seq k
 ·cases h;exact Ex.block k
 ·cases h;exact Ex.skip k
 ·cases h;exact Ex.reg hm k
 ·cases h
theorem Ex.d {b:Nat} {e:List V} (h:Gr P b c e n L R=some G) (k:G):Ex P b c e n L R:=by
 unfold Gr at h;split at h
 ·split at h
  ·cases h;exact Ex.condT ‹_› k
  ·cases h;exact Ex.condF ‹_› k
  ·cases h
 ·cases h
class SgE (Q:Prop) (Q':outParam Prop):Prop where
 go:Q'->Q
class SgL (Q:Prop) (Q':outParam Prop):Prop where
 go:Q'->Q
section
variable {P:Program} {b:Nat} {y:Code} {R:Post} {e:List V} {n i j:Nat} {L:Hp}
instance:SgE (Then P b y R .normal e n L) (Ex P b y e n L R):=⟨id⟩
instance {ops:Array Oper} {acc:List Row} {env:List V}:SgE (RegX P ops false acc [] env n L R) (R .normal env n L):=⟨RegX.nilF⟩
instance {K:Bool->Prop}:SgE (BrG true K) (K true):=⟨BrG.tt⟩
instance {K:Bool->Prop}:SgE (BrG false K) (K false):=⟨BrG.ff⟩
instance:SgL (Then P b y R (.exit i) e n L) (R (.exit i) e n L):=⟨id⟩
instance:SgL (Then P b y R .ret e n L) (R .ret e n L):=⟨id⟩
instance:SgL (InBlock i R .normal e n L) (R .normal e n L):=⟨id⟩
instance:SgL (InBlock i R (.exit i) e n L) (R .normal e n L):=⟨InBlock.here⟩
instance:SgL (InBlock i R .ret e n L) (R .ret e n L):=⟨id⟩
instance:SgL (Ex P b .ret e n L R) (R .ret e n L):=⟨Ex.ret⟩
instance:SgL (Ex P b (.exit i) e n L R) (R (.exit i) e n L):=⟨Ex.exit⟩
variable {σ:Type} {m m':Nat} {A:List Nat} {X:σ->List (Nat×V)} {env:List V} {H:σ->Hp} {I:σ->Prop} {mu:σ->Nat} {s:σ} {M:Hp}
instance:SgL (LoopR b m A X env H I mu s R (.exit i) e m' M) (R (.exit i) e m' M):=⟨id⟩
instance:SgL (LoopR b m A X env H I mu s R .ret e m' M) (R .ret e m' M):=⟨id⟩
theorem sE {Q Q':Prop} [g:SgE Q Q'] (h:Q'):Q:=g.go h
theorem sL {Q Q':Prop} [g:SgL Q Q'] (h:Q'):Q:=g.go h
variable {ops:Array Oper} {d:Bool} {acc:List Row} {os:List Oper} {xs:Array Operand} {ts:Array TypeId} {f:FuncId} {dst:Option Tmp} {op:BinOp} {ty ty' t:TypeId} {u v:Operand} {pos:String} {af:Array Edge} {gd:Option (Nat×Bool)}
theorem wC (h:CallG P ops d acc ⟨dst,.call ⟨.value (.func f),xs,ts⟩,t,pos,af,gd⟩ f xs os env n L R):RegX P ops d acc (⟨dst,.call ⟨.value (.func f),xs,ts⟩,t,pos,af,gd⟩::os) env n L R:=RegX.atCall h
theorem wq {foot:List Nat} {tt:Bool} {as_:List Ans} (hw:aY ops env ⟨dst,.binOp op ty u v ty',t,pos,af,gd⟩=some true) (h:Eh P ⟨dst,.binOp op ty u v ty',t,pos,af,gd⟩ env n L []=some ⟨⟨foot,.s (.bool tt),wr,n'⟩,as_,C⟩) (hC:C)
 (k:BrG tt λtt=>RegX P ops d (aG d ⟨dst,.binOp op ty u v ty',t,pos,af,gd⟩ foot wr acc) os (a_ env dst (.s (.bool tt))) n' (aw L wr) R):RegX P ops d acc (⟨dst,.binOp op ty u v ty',t,pos,af,gd⟩::os) env n L R:=RegX.atCmp (CmpG.go hw h hC k)
theorem wk {a:List Row} {os':List Oper} {e:List V} (h:il P ops d env false os acc [] n L=some (a,os',e,m,M,C)) (hC:C) (k:RegX P ops d a os' e m M R):RegX P ops d acc os env n L R:=RegX.chunk h hC k
theorem wc {c:Operand} {x:Code} {t:Bool} (hc:ev env c=.s (.bool t)) (h1:t=true->Ex P b x env n L R) (h2:t=false->Ex P b y env n L R):Ex P b (.cond c x y) env n L R:=Ex.condS hc h1 h2
theorem wN (h1:im ops acc.reverse=true) (h2:R .normal env n L):RegX P ops true acc [] env n L R:=RegX.nilT h1 h2
end
class DecP (t:Bool) (p q:outParam Prop):Prop where
 yes:t=true->p
 no:t=false->q
instance (priority:=low) DecP.any (t:Bool):DecP t (t=true) (t=false):=⟨id,id⟩
instance DecP.eqI (a b:Int):DecP (a==b) (a=b) (¬a=b):=⟨λh=>beq_iff_eq.1 h,λh e=>by rw[beq_iff_eq.2 e] at h;cases h⟩
instance DecP.neI (a b:Int):DecP (a !=b) (¬a=b) (a=b):=⟨λh=>bne_iff_ne.1 h,λh=>Z4o λe=>by rw[bne_iff_ne.2 e] at h;cases h⟩
instance DecP.dec (p:Prop) [Decidable p]:DecP (decide p) p (¬p):=⟨of_decide_eq_true,of_decide_eq_false⟩
instance DecP.neS (a b:List UInt8):DecP (!decide (a=b)) (¬a=b) (a=b):=⟨λh=>by simpa using h,λh=>by simpa using h⟩
theorem wb {t:Bool} {q:Prop} [d:DecP t p q] (h1:p->K true) (h2:q->K false):BrG t K:=by
 cases t with
 |true=>exact⟨h1 (d.yes rfl)⟩
 |false=>exact⟨h2 (d.no rfl)⟩
section
variable {P:Program} {ops:Array Oper} {d:Bool} {acc:List Row} {os:List Oper} {o:Oper} {env:List V} {n:Nat} {L:Hp} {R:Post} {f:FuncId} {xs:Array Operand}
theorem pu {args:List V} {v:V} (sc:FC P f args 0 [] v 0 []) (k:RegX P ops d (aG d o [] [] acc) os (a_ env o.dst v) n L R) (ha:xs.toList.map (ev env)=args:=by exact rfl) (h1:args.all (fp 0)=true:=by exact rfl) (h2:fp 0 v=true:=by exact rfl) (hw:aY ops env o=some true:=by exact rfl):CallG P ops d acc o f xs os env n L R:=CallG.pu sc ha h1 h2 hw k
theorem bo {args:List V} {t:Bool} (sc:FC P f args 0 [] (.s (.bool t)) 0 []) (k:BrG t λt=>RegX P ops d (aG d o [] [] acc) os (a_ env o.dst (.s (.bool t))) n L R) (ha:xs.toList.map (ev env)=args:=by exact rfl) (h1:args.all (fp 0)=true:=by exact rfl) (hw:aY ops env o=some true:=by exact rfl):CallG P ops d acc o f xs os env n L R:=CallG.bo sc ha h1 hw k
theorem cm {args0:List V} {v0:V} (sc:FC P f args0 1 L0 v0 n0' L0') {args1:List V} {v:V} (k:RegX P ops d (aG d o [0] wr acc) os (a_ env o.dst v) (n+(n0'-1)) (aw L wr) R)
 (hchk:(args0.all (fp 1)&&eV 1 L0&&dZ L0 L0'&&ce (bw L0')&&Nat.ble 1 n0'&&rC [0] n n0'&&sH [0] L0)=true:=by exact rfl) (ha:xs.toList.map (ev env)=args1:=by exact rfl) (hle:All2 VLe args1 (args0.map (bW (rn [0] n))):=by (repeat first|exact trivial|refine⟨VLe.refl _,?_⟩);first|done|fail) (ft:FitP [0] n (res [0] L) L0:=by exact⟨⟨rfl,_,rfl,rfl,λh=>h⟩,trivial⟩)
 (hw:aY ops env o=some true:=by exact rfl) (hv:iR (bW (rn [0] n) v0) some=some v:=by exact rfl) (hwr:li (b_ [0] n L0 L0') [] some=some wr:=by exact rfl):CallG P ops d acc o f xs os env n L R:=CallG.me [0] sc hchk ha hle ft hw hv hwr k
end
structure Bth (A B:Prop):Prop where
 a:A
 b:B
structure Wh (p A:Prop):Prop where
 k:p->A
structure Wn (p A:Prop):Prop where
 k:p->A
theorem yX {A:Prop} (h:p->False):Wh p A:=⟨λx=>(h x).elim⟩
theorem wbP {t:Bool} {q:Prop} [DecP t p q] (k:Bth (Wh p (K true)) (Wh q (K false))):BrG t K:=wb k.a.k k.b.k
theorem wkP {ops:Array Oper} {d:Bool} {acc:List Row} {os:List Oper} {env:List V} {a:List Row} {os':List Oper} {e:List V} (h:il P ops d env false os acc [] n L=some (a,os',e,m,M,C)) (k:Bth C (RegX P ops d a os' e m M R)):RegX P ops d acc os env n L R:=wk h k.a k.b
theorem wcP {b:Nat} {env:List V} {c:Operand} {x:Code} {t:Bool} (hc:ev env c=.s (.bool t)) (k:Bth (Wn (t=true) (Ex P b x env n L R)) (Wn (t=false) (Ex P b y env n L R))):Ex P b (.cond c x y) env n L R:=wc hc k.a.k k.b.k
theorem wX {ops:Array Oper} {d:Bool} {acc:List Row} {os:List Oper} {env:List V} {xs:Array Operand} {ts:Array TypeId} {t:TypeId} (f:FuncId) (h:CallG P ops d acc ⟨dst,.call ⟨.value (.func f),xs,ts⟩,t,pos,af,gd⟩ f xs os env n L R):RegX P ops d acc (⟨dst,.call ⟨.value (.func f),xs,ts⟩,t,pos,af,gd⟩::os) env n L R:=RegX.atCall h
theorem wW {f:FuncId} {fn:Func} {args:List V} {v:V} {L':Hp} {env:List V} (hf:P.funcs[f]? =some fn) (h:Ex P n c env n L (Fin P fn n v n' L')) (hok:mM P f=true:=by kernel_rfl) (hb:fn.body=some c:=by exact rfl) (he:args++List.replicate (fn.ntmps-args.length) .undef=env:=by exact rfl):FC P f args n L v n' L':=FC.walk hok hf hb he h
theorem y0 (h:G:=by first|(with_reducible first|exact Z0o|exact ae aa aa|exact aj aa aa)|((with_reducible refine yX ?_);intro h;first|contradiction|(exfalso;omega))):G:=h
theorem y1 {G':Prop} (k:G') (h:G'->G:=by first|exact sE|exact Ex.s hm rfl|exact wbP):G:=h k
theorem y2 {A B:Prop} (a:A) (b:B) (h:A->B->G:=by with_reducible first|exact And.intro|exact Bth.mk):G:=h a b
theorem y3 {G':Prop} (k:G') (h:G'->G:=by first|exact wq rfl rfl trivial|exact wkP rfl|exact Ex.d rfl|exact wN (by kernel_rfl)|exact sL|with_reducible exact w6 rfl|exact wcP rfl):G:=h k
theorem y4 {A:Prop} (k:p->A) (h:(p->A)->G:=by with_reducible first|exact Wh.mk|exact Wn.mk):G:=h k
theorem y5 (h:G:=by first|omega|rfl|(simp only[Z0p,Z0c];omega)):G:=h
theorem aV (h:G:=by (repeat first|exact trivial|refine⟨VLe.refl _,?_⟩);first|done|fail):G:=h
theorem nC (h:G:=by (repeat first|exact trivial|refine⟨⟨rfl,_,rfl,rfl,λh=>h⟩,?_⟩|refine⟨⟨rfl,_,rfl,rfl,λ_=>rfl⟩,?_⟩|refine FitP.op rfl rfl ?_);first|done|fail):G:=h
theorem bh (h:G:=by exact⟨.inl rfl,_,[],VLe.refl _,EndOK.by rfl (by (repeat first|exact trivial|refine⟨rfl,?_⟩);first|done|fail) rfl rfl rfl rfl⟩):G:=h
section
variable {P:Program} {ops:Array Oper} {d:Bool} {acc:List Row} {o:Oper} {f:FuncId} {xs:Array Operand} {os:List Oper} {env:List V} {n:Nat} {L:Hp} {R:Post}
theorem cf (tbl:List Nat) {args0:List V} {v0:V} (sc:FC P f args0 tbl.length L0 v0 n0' L0') {args1:List V} {v:V} (k:RegX P ops d (aG d o tbl wr acc) os (a_ env o.dst v) (n+(n0'-tbl.length)) (aw L wr) R)
 (hchk:(args0.all (fp tbl.length)&&eV tbl.length L0&&dZ L0 L0'&&ce (bw L0')&&Nat.ble tbl.length n0'&&rC tbl n n0'&&sH tbl L0)=true:=by exact rfl) (ha:xs.toList.map (ev env)=args1:=by exact rfl) (hle:All2 VLe args1 (args0.map (bW (rn tbl n))):=by (repeat first|exact trivial|refine⟨VLe.refl _,?_⟩);first|done|fail) (ft:FitP tbl n (res tbl L) L0:=by (repeat first|exact trivial|refine⟨⟨rfl,_,rfl,rfl,λh=>h⟩,?_⟩|refine⟨⟨rfl,_,rfl,rfl,λ_=>rfl⟩,?_⟩|refine FitP.op rfl rfl ?_);first|done|fail)
 (hw:aY ops env o=some true:=by exact rfl) (hv:iR (bW (rn tbl n) v0) some=some v:=by exact rfl) (hwr:li (b_ tbl n L0 L0') [] some=some wr:=by exact rfl):CallG P ops d acc o f xs os env n L R:=CallG.me tbl sc hchk ha hle ft hw hv hwr k
end
end
end Ab
end Go.Proofs.YtegjgpldfgjoiaaGreatDoor
