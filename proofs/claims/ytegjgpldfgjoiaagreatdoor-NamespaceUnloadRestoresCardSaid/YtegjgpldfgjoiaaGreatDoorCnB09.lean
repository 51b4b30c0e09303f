import Derived.Test.YtegjgpldfgjoiaaGreatDoorCnB08
set_option linter.unusedSimpArgs false
set_option linter.unusedVariables false
namespace Go.Proofs.YtegjgpldfgjoiaaGreatDoor
namespace Ab
open Go
def nT (wr:Hp):Hp:=wr.map fun x=>(x.1,none)
def ji (x:Row):Row:=(x.1,⟨x.2.foot,.undef,nT x.2.wr,0⟩)
theorem s4 (wr:Hp):az (nT wr)=az wr:=by
 simp[az,nT,Function.comp_def]
theorem rN (ops:Array Oper) (x y:Row):l8 ops (ji x) (ji y)=l8 ops x y:=by
 simp only[l8,ji,s4]
theorem gC {α β:Type} (f:α->β) (p:β×Nat->Bool):∀ (l:List α) (k:Nat),((l.map f).zipIdx k).all p=(l.zipIdx k).all fun x=>p (f x.1,x.2)
 |[],_=>rfl
 |x::t,k=>by simp only[List.map_cons,List.zipIdx_cons,List.all_cons,gC f p t]
theorem sK (ops:Array Oper) (rows:List Row):h_ ops (rows.map ji)=h_ ops rows:=by
 unfold h_;simp only[gC,rN]
def av (d:Bool) (o:Oper) (foot:List Nat) (wr:Hp) (acc:List Row):List Row:=match d with|true=>(o,⟨foot,.undef,nT wr,0⟩)::acc|false=>acc
def RegX (P:Program) (ops:Array Oper) (d:Bool) (acc:List Row) (os:List Oper) (env:List V) (n:Nat) (L:Hp) (R:Post):Prop:=
 ∃ rows:List Row,rows.map (·.1)=os/\RunOK P ops rows env n L/\(d=true->h_ ops (acc.reverse++rows.map ji)=true)/\
   R .normal (eD (fun _=>true) 0 rows env) (nAt rows n rows.length) (hD (fun _=>true) 0 rows L)
theorem vh:∀ (rows:List Row) (k:Nat) (e:List V),eD (fun _=>true) k rows e=eD (fun _=>true) 0 rows e
 |[],_,_=>rfl
 |(o,r)::t,k,e=>by simp only[eD];rw[vh t (k+1),vh t (0+1)]
theorem uR:∀ (rows:List Row) (k:Nat) (L:Hp),hD (fun _=>true) k rows L=hD (fun _=>true) 0 rows L
 |[],_,_=>rfl
 |(o,r)::t,k,L=>by simp only[hD];rw[uR t (k+1),uR t (0+1)]
section
variable {P:Program} {b:Nat} {ops:Array Oper} {d:Bool} {acc:List Row} {os:List Oper} {o:Oper} {env:List V} {n:Nat} {L:Hp} {R:Post}
theorem Ex.reg (hm:P.follows .mixedOrders=true) {id:Nat} (h:RegX P ops d [] ops.toList env n L R):Ex P b (.region id ops d) env n L R:=by
 obtain⟨rows,h1,h2,h3,h4⟩:=h
 cases d with
 |false=>exact Ex.regionText h1 h2 h4
 |true=>exact Ex.regionDraw hm (Cp h1 (by have:=h3 rfl;rw[List.reverse_nil,List.nil_append,sK] at this;exact this)) h2 h4
theorem RegX.nil (h1:match d with|true=>h_ ops acc.reverse=true|false=>True) (h2:R .normal env n L):RegX P ops d acc [] env n L R:=
 ⟨[],rfl,trivial,fun e=>by subst e;simpa using h1,h2⟩
theorem RegX.step {r:Ab.R} (hs:StepOK P ops o r env n L) (k:RegX P ops d (av d o r.foot r.wr acc) os (aB env o.dst r.v) r.n' (puts L r.wr) R):RegX P ops d acc (o::os) env n L R:=by
 obtain⟨rows,h1,h2,h3,h4⟩:=k;refine⟨(o,r)::rows,by rw[List.map_cons,h1],⟨hs,h2⟩,fun e=>?_,?_⟩
 ·subst e
  have:=h3 rfl;simp only[av,List.reverse_cons,List.append_assoc,List.singleton_append] at this
  simpa [ji] using this
 ·simp only[eD,hD,List.length_cons,nAt]
  rw[vh,uR];exact h4
theorem RegX.op {foot:List Nat} {v:V} {wr:Hp} {n':Nat} (hw:aI ops env o=some true) (h:OpL P o env n (res foot L) v n' (puts (res foot L) wr)) (hn:n<=n')
 (k:RegX P ops d (av d o foot wr acc) os (aB env o.dst v) n' (puts L wr) R):RegX P ops d acc (o::os) env n L R:=
 RegX.step (r:=⟨foot,v,wr,n'⟩) (.inl ⟨hw,h,hn⟩) k
theorem RegX.skip (hw:aI ops env o=some false) (k:RegX P ops d (av d o [] [] acc) os (aB env o.dst .undef) n L R):RegX P ops d acc (o::os) env n L R:=
 RegX.step (r:=⟨[],.undef,[],n⟩) (.inr ⟨hw,rfl,rfl,rfl⟩) k
def fw:List (Nat×V)->Nat->Option V
 |[],_=>none
 |(j,v)::t,i=>match Nat.beq j i with|true=>some v|false=>fw t i
def evO (base:List V) (u:List (Nat×V)):Operand->V
 | .tmp t=>match fw u t with|some v=>v|none=>base.getD t .undef
 | .const v=>cc v
 | .func f=> .s (.fn f)
 | .global g=> .s (.gp g 0)
def xw (ops:Array Oper) (e:Operand->V) (o:Oper):Option Bool:=
 match o.guard with
 |none=>some true
 |some (j,b)=>
  match (ops[j]?).bind (·.dst) with
  |none=>some false
  |some t=>
   match e (.tmp t) with
   | .s (.bool c)=>some (c==b)
   | .undef=>some false
   |_=>none
theorem iy (ops:Array Oper) (env:List V) (o:Oper):xw ops (ev env) o=aI ops env o:=by unfold xw aI;rfl
def jB (d:Nat) (v:V):List (Nat×V)->List (Nat×V)
 |[]=>[(d,v)]
 |(j,u)::t=>match Nat.beq j d with|true=>(d,v)::t|false=>match Nat.blt d j with|true=>(d,v)::(j,u)::t|false=>(j,u)::jB d v t
def oY (d:Option Tmp) (v:V) (u:List (Nat×V)):List (Nat×V):=match d with|some d=>jB d v u|none=>u
def ap (base:List V) (u:List (Nat×V)):List V:=u.foldl (fun e x=>e.set x.1 x.2) base
def Srt:List (Nat×V)->Prop
 |[]=>True
 |x::t=>(∀ y∈t,x.1<y.1)/\Srt t
theorem qT {d:Nat} {v:V}:∀ {u:List (Nat×V)} {y:Nat×V},y∈jB d v u->y=(d,v)\/y∈u
 |[],y,h=>by simp[jB] at h;exact .inl h
 |(j,w)::t,y,h=>by
  simp only[jB] at h;split at h
  ·rcases List.mem_cons.1 h with h|h
   ·exact .inl h
   ·exact .inr (.tail _ h)
  ·split at h
   ·rcases List.mem_cons.1 h with h|h
    ·exact .inl h
    ·exact .inr h
   ·rcases List.mem_cons.1 h with h|h
    ·exact .inr (h▸.head _)
    ·rcases qT h with h|h
     ·exact .inl h
     ·exact .inr (.tail _ h)
theorem qU {d:Nat} {v:V}:∀ {u:List (Nat×V)},(∃ y∈jB d v u,y.1=d)/\∀ x∈u,∃ y∈jB d v u,y.1=x.1
 |[]=>⟨⟨(d,v),by simp[jB],rfl⟩,fun x h=>by simp at h⟩
 |(j,w)::t=>by
  simp only[jB];split
  ·rename_i hb
   have:=Nat.eq_of_beq_eq_true hb;subst this
   exact⟨⟨_,.head _,rfl⟩,fun x hx=>by
    rcases List.mem_cons.1 hx with rfl|h
    ·exact⟨_,.head _,rfl⟩
    ·exact⟨x,.tail _ h,rfl⟩⟩
  ·split
   ·exact⟨⟨_,.head _,rfl⟩,fun x hx=>⟨x,.tail _ hx,rfl⟩⟩
   ·obtain⟨⟨y,hy,e⟩,h2⟩:=qU (d:=d) (v:=v) (u:=t)
    exact⟨⟨y,.tail _ hy,e⟩,fun x hx=>by
     rcases List.mem_cons.1 hx with rfl|h
     ·exact⟨_,.head _,rfl⟩
     ·obtain⟨z,hz,e⟩:=h2 x h;exact⟨z,.tail _ hz,e⟩⟩
theorem qS {d:Nat} {v:V}:∀ {u:List (Nat×V)},Srt u->Srt (jB d v u)
 |[],_=>⟨fun y h=>by simp at h,trivial⟩
 |(j,w)::t,h=>by
  simp only[jB];split
  ·rename_i hb
   have:=Nat.eq_of_beq_eq_true hb;subst this;exact h
  ·rename_i hb
   split
   ·rename_i hlt
    have:=al.1 hlt
    exact⟨fun y hy=>by
     rcases List.mem_cons.1 hy with rfl|hy
     ·exact this
     ·exact Nat.lt_trans this (h.1 y hy),h⟩
   ·rename_i hlt
    have hne:j≠d:=fun e=>by rw[e,Nat.beq_refl] at hb;cases hb
    have hge: ¬d<j:=fun e=>by rw[al.2 e] at hlt;cases hlt
    refine⟨fun y hy=>?_,qS h.2⟩
    rcases qT hy with rfl|hy
    ·show j<d;omega
    ·exact h.1 y hy
theorem tM {d:Nat} {v:V}:∀ {u:List (Nat×V)} {base:List V},(∀ y∈u,y.1≠d)->ap (base.set d v) u=(ap base u).set d v
 |[],_,_=>rfl
 |x::t,base,h=>by
  show ap ((base.set d v).set x.1 x.2) t=(ap (base.set x.1 x.2) t).set d v;rw[List.set_comm _ _ (h x (.head _)).symm,tM fun y hy=>h y (.tail _ hy)]
theorem Bo {d:Nat} {v:V}:∀ {u:List (Nat×V)} {base:List V},Srt u->ap base (jB d v u)=(ap base u).set d v
 |[],_,_=>rfl
 |(j,w)::t,base,h=>by
  simp only[jB];split
  ·rename_i hb
   have:=Nat.eq_of_beq_eq_true hb;subst this;show ap (base.set j v) t=(ap (base.set j w) t).set j v;rw[<-tM (fun y hy=>by have:=h.1 y hy;simp only at this;omega),List.set_set]
  ·rename_i hb
   have hne:j≠d:=fun e=>by rw[e,Nat.beq_refl] at hb;cases hb
   split
   ·rename_i hlt
    have:=al.1 hlt;show ap (base.set d v) ((j,w)::t)=_
    exact tM fun y hy=>by
     rcases List.mem_cons.1 hy with rfl|hy
     ·exact hne
     ·have:=h.1 y hy;simp only at this;omega
   ·exact Bo (u:=t) h.2
theorem vw:∀ {u:List (Nat×V)} {base:List V} {t:Nat},Srt u->(∀ y∈u,y.1<base.length)->(ap base u).getD t .undef=match fw u t with|some v=>v|none=>base.getD t .undef
 |[],_,_,_,_=>rfl
 |(j,w)::u,base,t,h,hl=>by
  show (ap (base.set j w) u).getD t .undef=_;simp only[fw];have hj:=hl (j,w) (.head _);simp only at hj;rw[vw h.2 (fun y hy=>by rw[List.length_set];exact hl y (.tail _ hy))];split
  ·rename_i v hf
   have hm:∃ y∈u,y.1=t:=by
    apply Classical.byContradiction;intro hno
    have:∀ u:List (Nat×V),(¬∃ y∈u,y.1=t)->fw u t=none:=by
     intro u
     induction u with
     |nil=>intro _;rfl
     |cons x s ih=>
      intro h;obtain⟨a,c⟩:=x;simp only[fw,fD (fun e=>h ⟨(a,c),.head _,e⟩)]
      exact ih fun⟨y,hy,e⟩=>h ⟨y,.tail _ hy,e⟩
    rw[this u hno] at hf;cases hf
   obtain⟨y,hy,rfl⟩:=hm;have:=h.1 y hy;rw[fD (show ¬j=y.1 by simp only at this;omega)];simp only[hf]
  ·rename_i hf
   by_cases e:j=t
   ·subst e
    simp only[Nat.beq_refl,List.getD_eq_getElem?_getD,List.getElem?_set];simp[hj]
   ·simp only[fD e,hf,List.getD_eq_getElem?_getD,List.getElem?_set,if_neg e]
theorem pa {base:List V} {u:List (Nat×V)} (h:Srt u) (hl:∀ y∈u,y.1<base.length):evO base u=ev (ap base u):=by
 funext x
 cases x with
 |tmp t=>exact (vw h hl).symm
 |_=>rfl
def qt {β:Type} (k:List V->β) (f:β):List V->Nat->V->Nat->List (Nat×V)->List V->β
 |[],_,_,_,_,_=>f
 |_::l,0,u,_,[],acc=>rv (u::acc) l k
 |_::l,0,u,j,(j',u')::t,acc=>qt k f l (Nat.sub j' (j+1)) u' j' t (u::acc)
 |v::l,g+1,u,j,t,acc=>qt k f l g u j t (v::acc)
def mrg {β:Type} (k:List V->β) (f:β) (base:List V) (u:List (Nat×V)):β:=match u with|[]=>k base|(j,x)::t=>qt k f base j x j t []
theorem foldl_cons {p:Nat} {v:V}:∀ {t:List (Nat×V)} {l:List V},(∀ y∈t,p<y.1)->t.foldl (fun e x=>e.set (x.1-p) x.2) (v::l)=v::t.foldl (fun e x=>e.set (x.1-(p+1)) x.2) l
 |[],_,_=>rfl
 |x::t,l,h=>by
  have hx:=h x (.head _);simp only[List.foldl_cons];rw[show x.1-p=(x.1-(p+1))+1 by omega,List.set_cons_succ,foldl_cons fun y hy=>h y (.tail _ hy)]
theorem oI {β:Type} {k:List V->β} {f:β}:∀ {l:List V} {g:Nat} {u:V} {j:Nat} {t:List (Nat×V)} {acc:List V},g<=j->(∀ y∈t,j<y.1)->Srt t->
 ((g<l.length/\∀ y∈t,y.1-(j-g)<l.length)/\qt k f l g u j t acc=k (acc.reverse++t.foldl (fun e x=>e.set (x.1-(j-g)) x.2) (l.set g u)))\/qt k f l g u j t acc=f
 |[],_,_,_,_,_,_,_,_=> .inr rfl
 |v::l,0,u,j,[],acc,_,_,_=> .inl ⟨⟨by simp,fun y h=>by simp at h⟩,by simp[qt,um]⟩
 |v::l,0,u,j,(j',u')::t,acc,_,hj,hs=>by
  have h1:=hj (j',u') (.head _);simp only at h1;simp only[qt]
  rcases oI (k:=k) (f:=f) (l:=l) (g:=Nat.sub j' (j+1)) (u:=u') (j:=j') (t:=t) (acc:=u::acc) (Nat.sub_le _ _) (fun y hy=>hs.1 y hy) hs.2 with ⟨⟨a,c⟩,h⟩|h
  ·have hg:Nat.sub j' (j+1)=j'-(j+1):=rfl
   have e:j'-Nat.sub j' (j+1)=j+1:=by rw[hg];omega
   rw[e] at c h;refine .inl ⟨⟨by simp,fun y hy=>?_⟩,?_⟩
   ·simp only[List.length_cons,Nat.sub_zero]
    rcases List.mem_cons.1 hy with rfl|hy
    ·simp only;rw[hg] at a;omega
    ·have:=c y hy;have:=hs.1 y hy;simp only at this;omega
   ·rw[h]
    congr 1;simp only[List.set_cons_zero,Nat.sub_zero,List.reverse_cons,List.append_assoc,List.singleton_append];rw[foldl_cons fun y hy=>hj y hy];rfl
  ·exact .inr h
 |v::l,g+1,u,j,t,acc,hgj,hj,hs=>by
  simp only[qt]
  rcases oI (k:=k) (f:=f) (l:=l) (g:=g) (u:=u) (j:=j) (t:=t) (acc:=v::acc) (by omega) hj hs with ⟨⟨a,c⟩,h⟩|h
  ·refine .inl ⟨⟨by simp;omega,fun y hy=>?_⟩,?_⟩
   ·have:=c y hy;have:=hj y hy;simp only[List.length_cons];omega
   ·rw[h]
    congr 1;simp only[List.set_cons_succ,List.reverse_cons,List.append_assoc,List.singleton_append];rw[foldl_cons fun y hy=>by have:=hj y hy;omega]
    have e:j-(g+1)+1=j-g:=by omega
    rw[e]
  ·exact .inr h
theorem Fb {β:Type} {k:List V->β} {f:β} {base:List V} {u:List (Nat×V)} (h:Srt u):((∀ y∈u,y.1<base.length)/\mrg k f base u=k (ap base u))\/mrg k f base u=f:=by
 cases u with
 |nil=>exact .inl ⟨fun y h=>by simp at h,rfl⟩
 |cons x t=>
  obtain⟨j,v⟩:=x
  rcases oI (k:=k) (f:=f) (l:=base) (g:=j) (u:=v) (j:=j) (t:=t) (acc:=[]) (Nat.le_refl _) h.1 h.2 with ⟨⟨a,c⟩,e⟩|e
  ·refine .inl ⟨fun y hy=>?_,?_⟩
   ·rcases List.mem_cons.1 hy with rfl|hy
    ·exact a
    ·have:=c y hy;rwa [Nat.sub_self,Nat.sub_zero] at this
   ·simp only[mrg,e];simp[ap]
  ·exact .inr e
def GR:BinOp->Bool
 | .eql=>true| .neq=>true| .lss=>true| .leq=>true| .gtr=>true| .geq=>true
 |_=>false
def EI:Op->Bool
 | .binOp op _ _ _ _=>GR op
 | .makeSlice _ _ _=>true
 | .convert _ _ _=>false
 | .call c=>match c.callee with| .builtin .len=>false|_=>true
 |_=>false
abbrev RunO:=Option (List Row×List Oper×List V×Nat×Hp×Prop)
def fQ (s:Bool) (acc:List Row) (os:List Oper) (base:List V) (u:List (Nat×V)) (n:Nat) (L:Hp):RunO:=
 match s with|true=>mrg (fun env=>some (acc,os,env,n,L,True)) none base u|false=>none
def xb (C:Prop):RunO->RunO
 |some (a,s',e,m,M,D)=>some (a,s',e,m,M,C/\D)
 |none=>none
def fV (P:Program) (ops:Array Oper) (d:Bool) (base:List V):Bool->List Oper->List Row->List (Nat×V)->Nat->Hp->RunO
 |s,[],acc,u,n,L=>fQ s acc [] base u n L
 |s,o::os,acc,u,n,L=>
  match xw ops (evO base u) o with
  |some true=>
   match EI o.op with
   |true=>fQ s acc (o::os) base u n L
   |false=>
    match Bp P o (evO base u) n L with
    |some ⟨⟨foot,v,wr,n'⟩,_,C⟩=>
     frc (oY o.dst v u) [] fun u'=>frc (puts L wr) [] fun L'=>
      match d with
      |true=>xb C (fV P ops d base true os (av true o foot wr acc) u' n' L')
      |false=>xb C (fV P ops d base true os acc u' n' L')
    |none=>fQ s acc (o::os) base u n L
  |some false=>
   frc (oY o.dst .undef u) [] fun u'=>
    match d with
    |true=>fV P ops d base true os (av true o [] [] acc) u' n L
    |false=>fV P ops d base true os acc u' n L
  |none=>fQ s acc (o::os) base u n L
theorem gH {s:Bool} {acc:List Row} {os:List Oper} {base:List V} {u:List (Nat×V)} {a:List Row} {os':List Oper} {e:List V} {m:Nat} {M:Hp} {C:Prop} (hs:Srt u) (h:fQ s acc os base u n L=some (a,os',e,m,M,C)):
 (∀ y∈u,y.1<base.length)/\a=acc/\os'=os/\e=ap base u/\m=n/\M=L:=by
 unfold fQ at h
 cases s with
 |false=>cases h
 |true=>
  simp only[] at h
  rcases Fb (k:=fun env=>(some (acc,os,env,n,L,True):RunO)) (f:=none) (base:=base) hs with ⟨h1,h2⟩|h2
  ·rw[h2] at h;cases h;exact⟨h1,rfl,rfl,rfl,rfl,rfl⟩
  ·rw[h2] at h;cases h
theorem iT {d:Option Tmp} {v:V} {u:List (Nat×V)} (h:Srt u):Srt (oY d v u):=by
 cases d with
 |none=>exact h
 |some d=>exact qS h
theorem kL {d:Option Tmp} {v:V} {u:List (Nat×V)} {base:List V} (h:Srt u):ap base (oY d v u)=aB (ap base u) d v:=by
 cases d with
 |none=>rfl
 |some d=>exact Bo h
theorem iU {d:Option Tmp} {v:V} {u:List (Nat×V)} {N:Nat} (h:∀ y∈oY d v u,y.1<N):∀ y∈u,y.1<N:=by
 cases d with
 |none=>exact h
 |some d=>
  intro y hy;obtain⟨z,hz,e⟩:=(qU (d:=d) (v:=v) (u:=u)).2 y hy;rw[<-e];exact h z hz
theorem nw {C:Prop} {x:RunO} {a:List Row} {os':List Oper} {e:List V} {m:Nat} {M:Hp} {E:Prop} (h:xb C x=some (a,os',e,m,M,E)):∃ D,x=some (a,os',e,m,M,D)/\(E->C/\D):=by
 unfold xb at h;split at h
 ·cases h;exact⟨_,rfl,id⟩
 ·cases h
theorem Cf {base:List V}:∀ (os:List Oper) (s:Bool) (acc:List Row) (u:List (Nat×V)) (n:Nat) (L:Hp) (a:List Row) (os':List Oper) (e:List V) (m:Nat) (M:Hp) (C:Prop),Srt u->
 fV P ops d base s os acc u n L=some (a,os',e,m,M,C)->(∀ y∈u,y.1<base.length)/\(C->RegX P ops d a os' e m M R->RegX P ops d acc os (ap base u) n L R):=by
 intro os
 induction os with
 |nil=>
  intro s acc u n L a os' e m M C hs h;unfold fV at h;obtain⟨h1,rfl,rfl,rfl,rfl,rfl⟩:=gH hs h;exact⟨h1,fun _ k=>k⟩
 |cons o os ih=>
  intro s acc u n L a os' e m M C hs h
  have stop:fQ s acc (o::os) base u n L=some (a,os',e,m,M,C)->(∀ y∈u,y.1<base.length)/\(C->RegX P ops d a os' e m M R->RegX P ops d acc (o::os) (ap base u) n L R):=by
   intro h;obtain⟨h1,rfl,rfl,rfl,rfl,rfl⟩:=gH hs h;exact⟨h1,fun _ k=>k⟩
  unfold fV at h;split at h
  ·rename_i hw
   split at h
   ·exact stop h
   ·split at h
    ·rename_i foot v wr n' as_ C1 ha
     rw[aQ,aQ] at h
     have go:∀ (acc':List Row),acc'=av d o foot wr acc->xb C1 (fV P ops d base true os acc' (oY o.dst v u) n' (puts L wr))=some (a,os',e,m,M,C)->(∀ y∈u,y.1<base.length)/\(C->RegX P ops d a os' e m M R->RegX P ops d acc (o::os) (ap base u) n L R):=by
      intro acc' hacc h;obtain⟨D,h1,h2⟩:=nw h;obtain⟨k1,k2⟩:=ih _ _ _ _ _ _ _ _ _ _ _ (iT hs) h1;have ku:=iU k1;refine⟨ku,fun hC k=>?_⟩;obtain⟨hc1,hc2⟩:=h2 hC;rw[pa hs ku] at ha hw;rw[iy] at hw;obtain⟨q1,q2⟩:=vx (show Dy P o (ap base u) n L=_ from ha) hc1;refine RegX.op hw q1 q2 ?_;have:=k2 hc2 k;rw[kL hs,hacc] at this;exact this
     cases d with
     |true=>exact go _ rfl h
     |false=>exact go _ rfl h
    ·exact stop h
  ·rename_i hw
   rw[aQ] at h
   have go:∀ (acc':List Row),acc'=av d o [] [] acc->fV P ops d base true os acc' (oY o.dst .undef u) n L=some (a,os',e,m,M,C)->(∀ y∈u,y.1<base.length)/\(C->RegX P ops d a os' e m M R->RegX P ops d acc (o::os) (ap base u) n L R):=by
    intro acc' hacc h;obtain⟨k1,k2⟩:=ih _ _ _ _ _ _ _ _ _ _ _ (iT hs) h;have ku:=iU k1;refine⟨ku,fun hC k=>?_⟩;rw[pa hs ku,iy] at hw;refine RegX.skip hw ?_;have:=k2 hC k;rw[kL hs,hacc] at this;exact this
   cases d with
   |true=>exact go _ rfl h
   |false=>exact go _ rfl h
  ·exact stop h
theorem RegX.chunk {a:List Row} {os':List Oper} {e:List V} {m:Nat} {M:Hp} {C:Prop} (h:fV P ops d env false os acc [] n L=some (a,os',e,m,M,C)) (hC:C) (k:RegX P ops d a os' e m M R):RegX P ops d acc os env n L R:=
 (Cf os false acc [] n L a os' e m M C trivial h).2 hC k
theorem RegX.opA (ans:List Ans) {foot:List Nat} {v:V} {wr:Hp} {n':Nat} {as_:List Ans} {C:Prop} (hw:aI ops env o=some true) (h:aop P o env n L ans=some ⟨⟨foot,v,wr,n'⟩,as_,C⟩) (hC:C)
 (k:RegX P ops d (av d o foot wr acc) os (aB env o.dst v) n' (puts L wr) R):RegX P ops d acc (o::os) env n L R:=by
 obtain⟨h1,h2⟩:=dK h hC;exact RegX.op hw h1 h2 k
theorem om {r:Nat->Nat}:∀ {x:S},okS 0 x=true->kj r x=x:=by
 intro x h
 cases x with
 |ptr a=>rcases a with _|⟨i,o⟩<;>first|rfl|(simp[okS,Nat.blt] at h)
 |slc a n c=>rcases a with _|⟨i,o⟩<;>first|rfl|(simp[okS,Nat.blt] at h)
 |sla i g n=>simp[okS,Nat.blt] at h
 |row i g n=>simp[okS,Nat.blt] at h
 |map a=>rcases a with _|i<;>first|rfl|(simp[okS,Nat.blt] at h)
 |itr r m=>simp[okS,Nat.blt] at h
 |clo f ps=>
  simp only[okS,List.all_eq_true] at h
  have:ps=[]:=by
   cases ps with
   |nil=>rfl
   |cons p t=>have:=h p (.head _);simp[Nat.blt] at this
  subst this;rfl
 |opq k t K=>
  have key:∀ t:Tm,t.lt 0=true->t.ren r=t:=by
   intro t
   induction t with
   |v i=>intro h;simp[Tm.lt,Nat.blt] at h
   |c z=>intro _;rfl
   |bin o k a b iha ihb=>intro h;simp only[Tm.lt,Bool.and_eq_true] at h;simp only[Tm.ren,iha h.1,ihb h.2]
  simp only[okS] at h;simp only[kj,key t h]
 |_=>rfl
theorem qf {r:Nat->Nat} {l:List S} (h:l.all (okS 0)=true):l.map (kj r)=l:=by
 induction l with
 |nil=>rfl
 |cons x t ih=>simp only[List.all_cons,Bool.and_eq_true] at h;simp only[List.map_cons,om h.1,ih h.2]
theorem Ck {r:Nat->Nat} {x:U} (h:okU 0 x=true):qe r x=x:=by
 cases x with
 |s x=>simp only[qe,om (show okS 0 x=true from h)]
 |agg l=>simp only[qe,qf (show l.all (okS 0)=true from h)]
theorem kz {r:Nat->Nat} {x:V} (h:okV 0 x=true):bv r x=x:=by
 cases x with
 |any=>rfl
 |undef=>rfl
 |s x=>simp only[bv,om (show okS 0 x=true from h)]
 |agg l=>simp only[bv,qf (show l.all (okS 0)=true from h)]
 |tup l=>
  have:∀ l:List U,l.all (okU 0)=true->l.map (qe r)=l:=by
   intro l
   induction l with
   |nil=>intro _;rfl
   |cons x t ih=>intro h;simp only[List.all_cons,Bool.and_eq_true] at h;simp only[List.map_cons,Ck h.1,ih h.2]
  simp only[bv,this l h]
 |w i g sz k m=>simp[okV,Nat.blt] at h
theorem qd {r:Nat->Nat} {l:List V} (h:l.all (okV 0)=true):l.map (bv r)=l:=by
 induction l with
 |nil=>rfl
 |cons x t ih=>simp only[List.all_cons,Bool.and_eq_true] at h;simp only[List.map_cons,kz h.1,ih h.2]
end
section
variable {P:Program} {b:Nat} {env:List V} {n:Nat} {L:Hp} {R:Post}
theorem Ex.condT {c:Operand} {x y:Code} (hc:ev env c=.s (.bool true)) (h:Ex P b x env n L R):Ex P b (.cond c x y) env n L R:=Ex.cond hc h
theorem Ex.condF {c:Operand} {x y:Code} (hc:ev env c=.s (.bool false)) (h:Ex P b y env n L R):Ex P b (.cond c x y) env n L R:=Ex.cond hc h
theorem Ex.condS {c:Operand} {x y:Code} {t:Bool} (hc:ev env c=.s (.bool t)) (h1:t=true->Ex P b x env n L R) (h2:t=false->Ex P b y env n L R):Ex P b (.cond c x y) env n L R:=by
 refine Ex.cond hc ?_
 cases t with
 |true=>exact h1 rfl
 |false=>exact h2 rfl
end
def Fin (P:Program) (fn:Func) (n:Nat) (v:V) (n':Nat) (L':Hp):Post:=fun x env m M=>(x=.ret\/x=.normal)/\∃ v1 new,VLe v1 v/\EndOK P fn n v1 n' L' new env M
theorem SC.walk {P:Program} {f:FuncId} {fn:Func} {c:Code} {args:List V} {n:Nat} {L:Hp} {v:V} {n':Nat} {L':Hp} (hf:P.funcs[f]? =some fn) (hb:fn.body=some c) {env:List V} (he:args++List.replicate (fn.ntmps-args.length) .undef=env)
 (h:Ex P n c env n L (Fin P fn n v n' L')):SC P f args n L v n' L':=SC.intro hf hb (he▸h)
def FC (P:Program) (f:FuncId) (args:List V) (n:Nat) (L:Hp) (v:V) (n':Nat) (L':Hp):Prop:=kq P f=true/\SC P f args n L v n' L'
theorem FC.walk {P:Program} {f:FuncId} {fn:Func} {c:Code} {args:List V} {n:Nat} {L:Hp} {v:V} {n':Nat} {L':Hp} (hok:kq P f=true) (hf:P.funcs[f]? =some fn) (hb:fn.body=some c) {env:List V} (he:args++List.replicate (fn.ntmps-args.length) .undef=env)
 (h:Ex P n c env n L (Fin P fn n v n' L')):FC P f args n L v n' L':=⟨hok,SC.walk hf hb he h⟩
theorem Fin.le {P:Program} {fn:Func} {v v':V} {env:List V} {m:Nat} {M:Hp} {x:Exit} (hx:x=.ret\/x=.normal) (h1:eJ P fn env M=some v') (h2:VLe v' v) (h3:okV 0 v'=true):Fin P fn 0 v 0 [] x env m M:=
 ⟨hx,v',[],h2,EndOK.plain (by rw[kz h3,h1]) E9 h3 rfl⟩
theorem Fin.plain {P:Program} {fn:Func} {v v':V} {env:List V} {m:Nat} {M:Hp} {x:Exit} (hx:x=.ret\/x=.normal) (h1:eJ P fn env M=some v') (h2:v'=v) (h3:okV 0 v'=true):Fin P fn 0 v 0 [] x env m M:=
 Fin.le hx h1 (h2▸VLe.refl _) h3
theorem Fin.bool {P:Program} {fn:Func} {x y:Bool} {env:List V} {m:Nat} {M:Hp} {e:Exit} (hx:e=.ret\/e=.normal) (h1:eJ P fn env M=some (.s (.bool x))) (h2:x=y):Fin P fn 0 (.s (.bool y)) 0 [] e env m M:=
 Fin.plain hx h1 (by rw[h2]) rfl
theorem Fin.int {P:Program} {fn:Func} {k:IntKind} {x y:Int} {env:List V} {m:Nat} {M:Hp} {e:Exit} (hx:e=.ret\/e=.normal) (h1:eJ P fn env M=some (.s (.int k x))) (h2:x=y):Fin P fn 0 (.s (.int k y)) 0 [] e env m M:=
 Fin.plain hx h1 (by rw[h2]) rfl
theorem Fin.str {P:Program} {fn:Func} {x y:List UInt8} {env:List V} {m:Nat} {M:Hp} {e:Exit} (hx:e=.ret\/e=.normal) (h1:eJ P fn env M=some (.s (.str x))) (h2:x=y):Fin P fn 0 (.s (.str y)) 0 [] e env m M:=
 Fin.plain hx h1 (by rw[h2]) rfl
def SLe (a b:S):Prop:=∀ (φ:Ph) (x:Value),Sr φ a x->Sr φ b x
def ULe (a b:U):Prop:=∀ (φ:Ph) (x:Value),Ur φ a x->Ur φ b x
theorem SLe.refl (a:S):SLe a a:=fun _ _ h=>h
theorem VLe.of_eq {a b:V} (h:a=b):VLe a b:=h▸VLe.refl _
theorem VLe.any (a:V):VLe a .any:=fun _ _ _=>trivial
theorem VLe.s {a b:S} (h:SLe a b):VLe (.s a) (.s b):=fun φ x hx=>h φ x hx
theorem SLe.alls {l l':List S} (h:All2 SLe l l'):∀ {φ:Ph} {xs:List Value},All2 (Sr φ) l xs->All2 (Sr φ) l' xs:=by
 induction l generalizing l' with
 |nil=>intro φ xs k;cases l' with
  |nil=>exact k
  |cons _ _=>exact h.elim
 |cons a t ih=>intro φ xs k;cases l' with
  |nil=>exact h.elim
  |cons b t'=>cases xs with
   |nil=>exact k.elim
   |cons x xs=>exact⟨h.1 φ x k.1,ih h.2 k.2⟩
theorem ULe.alls {l l':List U} (h:All2 ULe l l'):∀ {φ:Ph} {xs:List Value},All2 (Ur φ) l xs->All2 (Ur φ) l' xs:=by
 induction l generalizing l' with
 |nil=>intro φ xs k;cases l' with
  |nil=>exact k
  |cons _ _=>exact h.elim
 |cons a t ih=>intro φ xs k;cases l' with
  |nil=>exact h.elim
  |cons b t'=>cases xs with
   |nil=>exact k.elim
   |cons x xs=>exact⟨h.1 φ x k.1,ih h.2 k.2⟩
theorem VLe.agg {l l':List S} (h:All2 SLe l l'):VLe (.agg l) (.agg l'):=fun φ x ⟨xs,e,k⟩=>⟨xs,e,SLe.alls h k⟩
theorem ULe.s {a b:S} (h:SLe a b):ULe (.s a) (.s b):=fun φ x hx=>h φ x hx
theorem ULe.agg {l l':List S} (h:All2 SLe l l'):ULe (.agg l) (.agg l'):=fun φ x ⟨xs,e,k⟩=>⟨xs,e,SLe.alls h k⟩
theorem VLe.tup {l l':List U} (h:All2 ULe l l'):VLe (.tup l) (.tup l'):=fun φ x ⟨xs,e,k⟩=>⟨xs,e,ULe.alls h k⟩
theorem SLe.nil {m:Nat} {c:Option Nat} {get:Nat->List S} {sz:Nat}:SLe (.slc none m c) (.frz get sz 0):=fun φ x h=>by
 obtain⟨_,_,rfl⟩:=h;exact .nil _ _ _ _ (fun _=>rfl)
theorem SLe.row0 {i g:Nat} {get:Nat->List S} {sz:Nat}:SLe (.row i g 0) (.frz get sz 0):=fun φ x h=>by
 rcases h with ⟨_,rfl⟩|⟨h,_⟩
 ·exact .nil _ _ _ _ (fun _=>rfl)
 ·omega
theorem SLe.nilrow {m:Nat} {c:Option Nat} {i g:Nat}:SLe (.slc none m c) (.row i g 0):=fun φ x h=>by
 obtain⟨_,_,rfl⟩:=h;exact .inl ⟨rfl,rfl⟩
theorem SLe.slarow {i g n:Nat} (h:0<n):SLe (.sla i g n) (.row i g n):=fun φ x k=> .inr ⟨h,k⟩
theorem SLe.rowsla {i g n:Nat} (h:0<n):SLe (.row i g n) (.sla i g n):=fun φ x k=>by
 rcases k with ⟨e,_⟩|⟨_,k⟩
 ·omega
 ·exact k
theorem SLe.frz {get get':Nat->List S} {sz n:Nat} (h:∀ i,i<n->get i=get' i):SLe (.frz get sz n) (.frz get' sz n):=fun φ x k=>by
 cases k with
 |nil get sz a k hk=>exact .nil _ _ _ _ hk
 |frz get sz n b o k vs h1 hn val hl hv hx=>
  exact .frz _ _ _ _ _ _ vs h1 hn val (fun i hi=>by rw[<-h i hi];exact hl i hi) (fun i j x hi hg=>hv i j x hi (by rw[h i hi];exact hg)) (fun i j x hi hg=>hx i j x hi (by rw[h i hi];exact hg))
section
variable {P:Program} {b:Nat} {c:Code} {env:List V} {n:Nat} {L:Hp} {R:Post}
theorem Ex.le {env':List V} (h:All2 VLe env env') (k:Ex P b c env' n L R):Ex P b c env n L R:=by
 intro φ a w h1 h2 h3 h4;exact k φ a w ⟨h1.1,VLe.all h h1.2⟩ h2 h3 h4
theorem vz:∀ {env:List V} {t:Nat} {v:V},VLe (env.getD t .undef) v->All2 VLe env (env.set t v)
 |[],_,_,_=>trivial
 |x::e,0,v,h=>⟨h,VLe.refls e⟩
 |x::e,t+1,v,h=>⟨VLe.refl x,vz (env:=e) h⟩
theorem Ex.set (t:Nat) (v:V) (h:VLe (env.getD t .undef) v) {env':List V} (he:env.set t v=env') (k:Ex P b c env' n L R):Ex P b c env n L R:=
 Ex.le (he▸vz h) k
theorem Ex.sub {L':Hp} (h:Sub L' L) (k:Ex P b c env n L' R):Ex P b c env n L R:=by
 intro φ a w h1 h2 h3 h4;refine wp_mono (k φ a w h1 (h2.sub h) h3 h4) ?_;rintro x a' w' ⟨φ',e,m,M,hR,k1,k2,k3,k4,k5,k6⟩;refine⟨φ',e,m,M,hR,k1,k2,k3,k4,⟨k5.os,k5.tape,k5.output,k5.size,fun b hb hn=>k5.keep b hb fun hw=>hn (hw.sub h),fun j bl b hj hb hlt=>?_,k5.zle,fun x l hx=>?_⟩,k6⟩
 ·obtain⟨k,bl',c,hk,rest⟩:=k5.fresh j bl b hj hb hlt
  exact⟨k,bl',c,h _ _ hk,rest⟩
 ·rcases k5.zfr x l hx with q|q|q
  ·exact .inl q
  ·exact .inr (.inl q)
  ·exact .inr (.inr (q.sub h))
def aY:S->Bool
 | .bool _=>true
 | .int _ _=>true
 | .str _=>true
 | .frz _ _ _=>true
 | .unk=>true
 | .cst _=>true
 |_=>false
theorem Sr.pr {φ:Ph} {x:S} {v:Value} (h:Sr φ x v) (hp:aY x=true):Pr φ.z x v:=by
 cases x with
 |bool b=>simp only[Sr] at h;subst h;exact .bool b
 |int k n=>simp only[Sr] at h;subst h;exact .int k n
 |str l=>simp only[Sr] at h;subst h;exact .str l
 |unk=>exact .unk v h
 |cst u=>obtain⟨rfl,h⟩:=h;exact .cst v h
 |frz get sz n=>exact h
 |_=>cases hp
def ct:V->Option (Nat×Nat)
 | .s (.sla j _ n)=>some (j,n)
 | .s (.slc (some (j,0)) n _)=>some (j,n)
 | .s (.row j _ n)=>some (j,n)
 |_=>none
theorem Ex.fz (t:Nat) (get:Nat->List S) (sz:Nat) {i N:Nat} {bl:Bl} (ht:ct (env.getD t .undef)=some (i,N)) (hl:lk L i=some bl) (hro:bl.ro=false) (hk:bl.kind=none)
 (hg:∀ k,k<N->(get k).length=sz) (hc:∀ k j x,k<N->(get k)[j]? =some x->bl.cells[k*sz+j]? =some x/\aY x=true)
 {env':List V} (he:env.set t (.s (.frz get sz N))=env') {L':Hp} (hL:put L i none=L') (k:Ex P b c env' n L' R):Ex P b c env n L R:=by
 subst he;subst hL;intro φ a w h1 h2 h3 h4;obtain⟨b0,hb0,pre,xs,rest,fr,p1,hp,p2,p3,p4,p5⟩:=h2.hr i bl hl;rw[hk] at p1;simp only[bC] at p1
 let φ':Ph:=⟨φ.f,fun x=>if x=b0.1 then some (pre++(xs++rest)) else φ.z x⟩
 have hz0:φ.z b0.1=none:=by
  cases e:φ.z b0.1 with
  |none=>rfl
  |some l=>exact absurd ⟨i,bl,b0,hl,hb0,rfl,hro⟩ (h2.fz b0.1 l e).2
 have zle:∀ x l,φ.z x=some l->φ'.z x=some l:=by
  intro x l hx;simp only[φ'];split
  ·rename_i e;subst e;rw[hz0] at hx;cases hx
  ·exact hx
 have hle:φ.le φ':=⟨fun _ _ h=>h,zle⟩
 have hlt:b0.1<w.heap.size:=by
  rcases Nat.lt_or_ge b0.1 w.heap.size with h|h
  ·exact h
  ·simp[Array.getElem?_eq_none h] at p1
 have sub:Sub (put L i none) L:=by
  intro j bj hj;rw[ax] at hj;split at hj
  ·cases hj
  ·exact hj
 have good':Good φ' (put L i none) w:=by
  refine⟨fun j bj hj=>?_,fun j j' bj bj' c c' hj hj' hc hc' hcc=>h2.inj j j' bj bj' c c' (sub j bj hj) (sub j' bj' hj') hc hc' hcc,fun x l hx=>?_,h2.gz.mono zle⟩
  ·obtain⟨c,hc,hat⟩:=h2.hr j bj (sub j bj hj)
   exact⟨c,hc,hat.mono hle rfl⟩
  ·by_cases e:x=b0.1
   ·subst e
    simp only[φ',if_true,Option.some.injEq] at hx;subst hx;refine⟨⟨bl.ty,fr,p1⟩,?_⟩;rintro⟨j,bj,c,hj,hc,hcb,hroj⟩;have hj':=sub j bj hj
    rcases h2.inj j i bj bl c b0 hj' hl hc hb0 hcb with rfl|⟨e,_⟩
    ·rw[ax,if_pos rfl] at hj;cases hj
    ·rw[e] at hroj;cases hroj
   ·simp only[φ',if_neg e] at hx
    exact⟨(h2.fz x l hx).1,fun hw=>(h2.fz x l hx).2 (Wr.sub sub (by obtain⟨j,bj,c,hj⟩:=hw;exact⟨j,bj,c,hj⟩))⟩
 have hfz:∀ m kk,m<=N->m<=kk->Sr φ' (.frz get sz m) (.slice (some ⟨b0.1,b0.2,none⟩) m kk):=by
  intro m kk hm hmk;refine .frz get sz m b0.1 b0.2 kk (pre++(xs++rest)) (by simp[φ']) hmk (fun k j=>xs.getD (k*sz+j) Go.undef) (fun k hk=>hg k (by omega)) (fun k j x hk hx=>?_) (fun k j x hk hx=>?_)
  ·obtain⟨e,_⟩:=hc k j x (by omega) hx
   obtain⟨v,hv,_⟩:=p2.get e
   have hlx:k*sz+j<xs.length:=by
    rcases Nat.lt_or_ge (k*sz+j) xs.length with h|h
    ·exact h
    ·simp[List.getElem?_eq_none h] at hv
   rw[Nat.add_comm b0.2,fk pre _ hp,List.getElem?_append_left hlx,List.getD_eq_getElem?_getD,hv];rfl
  ·obtain⟨e,hpx⟩:=hc k j x (by omega) hx
   obtain⟨v,hv,hs⟩:=p2.get e;rw[List.getD_eq_getElem?_getD,hv,Option.getD_some];exact ((hs.mono (bl.ph_le_self φ)).mono hle).pr hpx
 have env':All2 (Vr φ') (env.set t (.s (.frz get sz N))) a.tmps.toList:=by
  have hall:=h1.2.mono (fun _ _=>Vr.mono hle)
  have hv:=(EnvR.slot (t:=t) ⟨h1.1,h1.2⟩)
  have hval:Vr φ' (.s (.frz get sz N)) (a.tmps.getD t Go.undef):=by
   generalize env.getD t .undef=v at ht hv;unfold ct at ht;split at ht
   ·cases ht
    obtain⟨b1,kk,hb1,_,e,hmk⟩:=hv;rw[hb0] at hb1;cases hb1;rw[e];exact hfz _ kk (Nat.le_refl _) hmk
   ·cases ht
    obtain⟨b1,kk,hb1,e,hmk,_⟩:=hv;rw[hb0] at hb1;cases hb1;rw[e,Nat.zero_add];exact hfz _ kk (Nat.le_refl _) hmk
   ·cases ht
    rcases hv with ⟨rfl,e⟩|⟨_,b1,kk,hb1,_,e,hmk⟩
    ·rw[e];exact .nil _ _ _ _ (fun _=>rfl)
    ·rw[hb0] at hb1;cases hb1
     rw[e];exact hfz _ kk (Nat.le_refl _) hmk
   ·cases ht
  have key:∀ (e:List V) (ys:List Value) (t:Nat) (v:V),All2 (Vr φ') e ys->Vr φ' v (ys.getD t Go.undef)->All2 (Vr φ') (e.set t v) ys:=by
   intro e
   induction e with
   |nil=>intro ys t v h _;exact h
   |cons u e ih=>intro ys t v h hv;cases ys with
    |nil=>exact h.elim
    |cons y ys=>cases t with
     |zero=>exact⟨hv,h.2⟩
     |succ t=>exact⟨h.1,ih ys t v h.2 hv⟩
  refine key _ _ _ _ hall ?_
  have e:a.tmps.toList.getD t Go.undef=a.tmps.getD t Go.undef:=by simp[Array.getD_eq_getD_getElem?,List.getD_eq_getElem?_getD]
  rw[e];exact hval
 refine wp_mono (k φ' a w ⟨h1.1,env'⟩ good' h3 h4) ?_;rintro x a' w' ⟨φ2,e,m,M,hR,k1,k2,k3,k4,k5,k6⟩;refine⟨φ2,e,m,M,hR,k1,k2,k3,k4,⟨k5.os,k5.tape,k5.output,k5.size,fun d hd hn=>k5.keep d hd fun hw=>hn (Wr.sub sub (by obtain⟨j,bj,c,hj⟩:=hw;exact⟨j,bj,c,hj⟩)),fun j bl1 d hj hd hlt'=>?_,fun x l hx=>k5.zle x l (zle x l hx),fun x l hx=>?_⟩,k6⟩
 ·obtain⟨kk,bl',c,hkk,rest'⟩:=k5.fresh j bl1 d hj hd hlt'
  exact⟨kk,bl',c,sub _ _ hkk,rest'⟩
 ·rcases k5.zfr x l hx with q|q|q
  ·by_cases e:x=b0.1
   ·subst e;exact .inr (.inr ⟨i,bl,b0,hl,hb0,rfl,hro⟩)
   ·simp only[φ',if_neg e] at q;exact .inl q
  ·exact .inr (.inl q)
  ·exact .inr (.inr (Wr.sub sub (by obtain⟨j,bj,c,hj⟩:=q;exact⟨j,bj,c,hj⟩)))
def F1:List Oper->List Nat->List Nat
 |[],acc=>acc
 |o::t,acc=>match o.dst with|some d=>F1 t (d::acc)|none=>F1 t acc
def asg:Code->List Nat->List Nat
 | .seq x y,acc=>asg x (asg y acc)
 | .cond _ x y,acc=>asg x (asg y acc)
 | .block _ c,acc=>asg c acc
 | .loop c,acc=>asg c acc
 | .region _ ops _,acc=>F1 ops.toList acc
 |_,acc=>acc
def nP (A:List Nat) (X:List (Nat×V)):Nat->List V->List V
 |_,[]=>[]
 |i,v::t=>(match fw X i with|some x=>x|none=>match A.elem i with|true=> .any|false=>v)::nP A X (i+1) t
def qp (A:List Nat) (X:List (Nat×V)):Nat->List V->List V
 |_,[]=>[]
 |i,v::t=>(match fw X i with|some _=> .any|none=>match A.elem i with|true=> .any|false=>v)::qp A X (i+1) t
def XLe (e:List V):List (Nat×V)->Prop
 |[]=>True
 |(t,v)::r=>VLe (e.getD t .undef) v/\XLe e r
theorem XLe.at {e:List V}:∀ {X:List (Nat×V)} {i:Nat} {v:V},XLe e X->fw X i=some v->VLe (e.getD i .undef) v
 |(j,u)::t,i,v,h,hf=>by
  simp only[fw] at hf;split at hf
  ·rename_i hb
   have:=Nat.eq_of_beq_eq_true hb;subst this;cases hf;exact h.1
  ·exact XLe.at h.2 hf
 |[],_,_,_,h=>by simp[fw] at h
theorem nO {A:List Nat} {X:List (Nat×V)}:∀ {env e:List V} {k:Nat},qp A X k env=qp A X k e->(∀ i v,fw X (k+i)=some v->VLe (e.getD i .undef) v)->All2 VLe e (nP A X k env)
 |[],[],k,_,_=>trivial
 |[],_::_,k,h,_=>by simp[qp] at h
 |_::_,[],k,h,_=>by simp[qp] at h
 |u::env,v::e,k,h,hx=>by
  simp only[qp,List.cons.injEq] at h;simp only[nP]
  refine⟨?_,nO h.2 fun i y hi=>by
   have:=hx (i+1) y (by rw[<-hi];congr 1;omega)
   simpa using this⟩
  have h0:=fun y=>hx 0 y
  simp only[Nat.add_zero,List.getD_cons_zero] at h0;split
  ·rename_i x hf;exact h0 x hf
  ·rename_i hf
   have h1:=h.1;simp only[hf] at h1;split
   ·exact VLe.any _
   ·rename_i ha
    simp only[ha] at h1;rw[h1];exact VLe.refl _
def SubP (M:Hp):Hp->Prop
 |[]=>True
 |(_,none)::t=>SubP M t
 |(i,some bl)::t=>lk M i=some bl/\SubP M t
theorem SubP.sub {M:Hp}:∀ {L:Hp},SubP M L->Sub L M
 |(j,none)::t,h,i,bl,hi=>by
  rw[ak] at hi;split at hi
  ·cases hi
  ·exact SubP.sub (L:=t) h i bl hi
 |(j,some c)::t,h,i,bl,hi=>by
  rw[ak] at hi;split at hi
  ·rename_i e;subst e;cases hi;exact h.1
  ·exact SubP.sub (L:=t) h.2 i bl hi
 |[],_,i,bl,hi=>by simp[lk] at hi
def eY {β:Type}:List V->List V->(List V->β)->β
 |[],acc,k=>rv acc [] k
 |v::t,acc,k=>
  match v with
  | .any=>eY t (.any::acc) k
  | .undef=>eY t (.undef::acc) k
  | .s x=>eY t (.s x::acc) k
  | .agg l=>eY t (.agg l::acc) k
  | .tup l=>eY t (.tup l::acc) k
  | .w i g sz j m=>eY t (.w i g sz j m::acc) k
theorem rf {β:Type} (k:List V->β):∀ (l acc:List V),eY l acc k=k (acc.reverse++l)
 |[],acc=>by simp only[eY];rw[um]
 |v::t,acc=>by cases v<;>(simp only[eY];rw[rf k t];simp)
theorem gO {β:Type} (k:List V->β) (l:List V):eY l [] k=k l:=by rw[rf];rfl
def LoopR {σ:Type} (b m:Nat) (A:List Nat) (X:σ->List (Nat×V)) (env:List V) (H:σ->Hp) (I:σ->Prop) (mu:σ->Nat) (s:σ) (R:Post):Post
 | .normal,e,_,M=>∃ s',I s'/\mu s'<mu s/\To b m e M (nP A (X s') 0 env) (H s')
 |x,e,m',M=>R x e m' M
theorem Ex.inv {σ:Type} (X:σ->List (Nat×V)) (H:σ->Hp) (I:σ->Prop) (mu:σ->Nat) (s0:σ) {A:List Nat} (hA:frc (asg c []) [] some=some A) {E:σ->List V} (hE:∀ s,eY (nP A (X s) 0 env) [] some=some (E s))
 (i0:I s0) (x0:XLe env (X s0)) (h0:SubP L (H s0)) (step:∀ s,I s->Ex P b c (E s) n (H s) (LoopR b n A X env H I mu s R)):Ex P b (.loop c) env n L R:=by
 have hE':∀ s,nP A (X s) 0 env=E s:=fun s=>by have:=hE s;rw[gO] at this;exact Option.some.inj this
 refine Ex.sub h0.sub (Ex.le (env':=E s0) (hE' s0▸nO rfl fun i v hf=>x0.at (by simpa using hf)) ?_);intro φ a w k1 k2 k3 k4;refine Ex.loopT (fun k env L=>∃ s,I s/\mu s<=k/\env=E s/\L=H s) k4 ?_ ?_ (mu s0) (E s0) (H s0) ⟨s0,i0,Nat.le_refl _,rfl,rfl⟩ φ a w k1 k2 k3 k4
 ·rintro k env L ⟨s,hI,hmu,rfl,rfl⟩
  refine (step s hI).mono ?_;intro x e m M hR
  cases x with
  |normal=>
   obtain⟨s',hI',hlt,ht⟩:=hR;exact .inl ⟨rfl,_,_,ht,s',hI',by omega,hE' s',rfl⟩
  |_=>exact .inr ⟨by simp,hR⟩
 ·rintro env L ⟨s,hI,hmu,rfl,rfl⟩
  refine (step s hI).mono ?_;intro x e m M hR
  cases x with
  |normal=>
   obtain⟨s',hI',hlt,ht⟩:=hR;omega
  |_=>exact⟨by simp,hR⟩
theorem To.same {m:Nat} {e e':List V} {M M':Hp} (h1:All2 VLe e e') (h2:SubP M M') (h3:e'.all (okV m)=true) (h4:okH m M'=true) (hb:b<=m):To b m e M e' M':=by
 intro φ₀ φ L₀ w₀ w a k1 k2 k3
 have st:Stp φ₀ L₀ w₀ φ M' w:=⟨k3.os,k3.tape,k3.output,k3.size,k3.keep,fun j bl b hj=>k3.fresh j bl b (h2.sub j bl hj),k3.zle,k3.zfr⟩
 refine⟨aj m φ,⟨k1.1,fb (VLe.all h1 k1.2) h3⟩,(k2.sub h2.sub).cut h4,fun i hi=>by simp[aj];omega,⟨st.os,st.tape,st.output,st.size,st.keep,fun j bl c hj hc=>?_,st.zle,st.zfr⟩,fun i hi=>by simp[aj];omega⟩;simp only[aj] at hc;split at hc
 ·exact st.fresh j bl c hj hc
 ·cases hc
theorem LoopR.same {σ:Type} {m:Nat} {A:List Nat} {X:σ->List (Nat×V)} {env:List V} {H:σ->Hp} {I:σ->Prop} {mu:σ->Nat} {s:σ} {e:List V} {m':Nat} {M:Hp} (s':σ) (hI:I s') (hmu:mu s'<mu s)
 (h1:qp A (X s') 0 env=qp A (X s') 0 e) (hx:XLe e (X s')) (h2:SubP M (H s')) (h3:(nP A (X s') 0 env).all (okV m)=true) (h4:okH m (H s')=true) (hb:b<=m):
 LoopR b m A X env H I mu s R .normal e m' M:=
 ⟨s',hI,hmu,To.same (nO h1 fun i v hf=>hx.at (by simpa using hf)) h2 h3 h4 hb⟩
end
end Ab
end Go.Proofs.YtegjgpldfgjoiaaGreatDoor
