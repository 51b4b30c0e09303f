import Derived.Test.YtegjgpldfgjoiaaGreatDoorCnB27
set_option linter.unusedSimpArgs false
set_option linter.unusedVariables false
namespace Go.Proofs.YtegjgpldfgjoiaaGreatDoor
namespace Ab
open Go
set_option maxRecDepth 100000
def OH (n:Nat) (L:Hp):Prop:=∀ i bl,lk L i=some bl->i<n/\okB n bl=true
def OE (n:Nat) (l:List V):Prop:=∀ v∈l,okV n v=true
theorem bt {i n m:Nat} (h:n<=m) (hb:Nat.blt i n=true):Nat.blt i m=true:=al.2 (Nat.lt_of_lt_of_le (al.1 hb) h)
theorem Tm.lt_mono {n m:Nat} (h:n<=m):∀ {t:Tm},t.lt n=true->t.lt m=true
 | .v i,hx=>bt h hx
 | .c _,_=>rfl
 | .bin o k a b,hx=>by
   simp only[Tm.lt,Bool.and_eq_true] at hx |-;exact⟨Tm.lt_mono h hx.1,Tm.lt_mono h hx.2⟩
theorem lr {n m:Nat} (h:n<=m) {x:S} (hx:okS n x=true):okS m x=true:=by
 cases x with
 |ptr a=>rcases a with _|⟨i,o⟩<;>first|rfl|exact bt h hx
 |slc a k c=>rcases a with _|⟨i,o⟩<;>first|rfl|exact bt h hx
 |sla i g k=>simp only[okS,Bool.and_eq_true] at hx |-;exact⟨bt h hx.1,bt h hx.2⟩
 |row i g k=>simp only[okS,Bool.and_eq_true] at hx |-;exact⟨bt h hx.1,bt h hx.2⟩
 |map a=>rcases a with _|i<;>first|rfl|exact bt h hx
 |clo f ps=>simp only[okS,List.all_eq_true] at hx |-;exact fun p hp=>bt h (hx p hp)
 |itr i m=>simp only[okS,Bool.and_eq_true] at hx |-;exact⟨bt h hx.1,bt h hx.2⟩
 |opq k t K=>exact Tm.lt_mono h hx
 |_=>rfl
theorem jt {n m:Nat} (h:n<=m) {l:List S} (hl:l.all (okS n)=true):l.all (okS m)=true:=by
 rw[List.all_eq_true] at hl |-;exact fun x hx=>lr h (hl x hx)
theorem yt {n m:Nat} (h:n<=m) {x:U} (hx:okU n x=true):okU m x=true:=by
 cases x with
 |s x=>exact lr h hx
 |agg l=>exact jt h hx
theorem qo {n m:Nat} (h:n<=m) {x:V} (hx:okV n x=true):okV m x=true:=by
 cases x with
 |s x=>exact lr h hx
 |agg l=>exact jt h hx
 |tup l=>simp only[okV] at hx |-;rw[List.all_eq_true] at hx |-;exact fun y hy=>yt h (hx y hy)
 |w i g sz k m'=>simp only[okV,Bool.and_eq_true] at hx |-;exact⟨bt h hx.1,bt h hx.2⟩
 |_=>rfl
theorem yx {n m:Nat} (h:n<=m) {x:Option (Nat×Nat)} (hx:okG n x=true):okG m x=true:=by
 rcases x with _|⟨g,z⟩<;>first|rfl|exact bt h hx
theorem yy {n m:Nat} (h:n<=m) {bl:Bl} (hb:okB n bl=true):okB m bl=true:=by
 unfold okB at hb |-;simp only[Bool.and_eq_true] at hb |-;refine⟨yx h hb.1,?_⟩;have:=hb.2;split at this
 ·rfl
 ·exact jt h this
theorem OH.mono {n m:Nat} {L:Hp} (h:n<=m) (hl:OH n L):OH m L:=fun i bl hi=>⟨Nat.lt_of_lt_of_le (hl i bl hi).1 h,yy h (hl i bl hi).2⟩
theorem OE.mono {n m:Nat} {l:List V} (h:n<=m) (hl:OE n l):OE m l:=fun v hv=>qo h (hl v hv)
theorem OE.set {n:Nat} {l:List V} (hl:OE n l) (d:Option Tmp) {v:V} (hv:okV n v=true):OE n (aB l d v):=by
 cases d with
 |none=>exact hl
 |some d=>intro x hx;rcases List.mem_or_eq_of_mem_set hx with h|rfl
          ·exact hl x h
          ·exact hv
theorem OE.at {n:Nat} {l:List V} (hl:OE n l) (x:Operand):okV n (Ab.ev l x)=true:=by
 cases x with
 |tmp t=>
  show okV n (l.getD t .undef)=true
  rcases Nat.lt_or_ge t l.length with h|h
  ·have:l.getD t .undef=l[t]:=by simp[List.getD,h]
   rw[this];exact hl _ (List.getElem_mem h)
  ·have:l.getD t .undef=.undef:=by simp[List.getD,h]
   rw[this];rfl
 |const v=>show okV n (cc v)=true;unfold cc;split<;>rfl
 |global g=>rfl
 |func f=>rfl
theorem OH.puts {n:Nat}:∀ (W:Hp) {L:Hp},OH n L->okW n W=true->OH n (puts L W)
 |[],L,h,_=>h
 |(i,none)::t,L,h,hw=>by
  simp only[Ab.puts];refine OH.puts t (fun j bl hj=>?_) hw;rw[ax] at hj;split at hj
  ·cases hj
  ·exact h j bl hj
 |(i,some b)::t,L,h,hw=>by
  simp only[okW] at hw;split at hw
  ·rename_i hb
   simp only[Bool.and_eq_true] at hb;simp only[Ab.puts];refine OH.puts t (fun j bl hj=>?_) hw;rw[ax] at hj;split at hj
   ·rename_i e;subst e;cases hj;exact⟨al.1 hb.1,CC hb.2⟩
   ·exact h j bl hj
  ·cases hw
theorem OH.congr {n:Nat} {L M:Hp} (h:OH n L) (e:∀ i,lk M i=lk L i):OH n M:=fun i bl hi=>h i bl (by rw[<-e i];exact hi)
theorem Good.cutO {φ:Ph} {n:Nat} {L:Hp} {w:World} (h:Good φ L w) (ok:OH n L):Good (aj n φ) L w:=by
 have back:∀ i b,aj n φ i=some b->φ i=some b:=fun i b hb=>by
  simp only[aj] at hb;split at hb
  ·exact hb
  ·cases hb
 refine⟨fun i bl hi=>?_,fun i j bl bl' b b' hi hj hb hb'=>?_,fun b l hb=>⟨(h.fz b l hb).1,fun⟨i,bl,c,h1,h2,h3⟩=>(h.fz b l hb).2 ⟨i,bl,c,h1,back i c h2,h3⟩⟩,h.gz⟩
 ·obtain⟨b,hb,hat⟩:=h.hr i bl hi
  obtain⟨hlt,hok⟩:=ok i bl hi;exact⟨b,by simp only[aj,if_pos hlt];exact hb,hat.cut hok⟩
 ·have h1:=(ok i bl hi).1
  have h2:=(ok j bl' hj).1;simp only[aj,if_pos h1] at hb;simp only[aj,if_pos h2] at hb';exact h.inj i j bl bl' b b' hi hj hb hb'
def CallOK (P:Program) (f:FuncId) (args:List V) (n:Nat) (L:Hp) (v:V) (n':Nat) (L':Hp):Prop:=
 ∀ (φ:Ph) (a:Act) (w:World) (o:Oper) (c:Call) (x:Operand) (cap:Array Value) (Q:Exit->Act->World->Prop),o.op=.call c->c.callee=.value x->a.eval x=.func (.func f) #[] cap->
   All2 (Vr φ) args (c.args.toList.map a.eval++cap.toList)->Good φ L w->(∀ i,n<=i->φ i=none)->
   o.wp P a w (fun a' w'=>∃ φ' y,a'=a.put o.dst y/\Vr φ' v y/\Good φ' L' w'/\Stp φ L w φ' L' w'/\(∀ i,i<n->φ' i=φ i)/\(∀ i,n'<=i->φ' i=none)) Q
theorem SC.callOK {P : Program} {f : FuncId} {args : List V} {n : Nat} {L : Hp} {v : V} {n' : Nat} {L' : Hp} (h : SC P f args n L v n' L') {fn : Func} (hfn : P.funcs[f]? = some fn) (hbody : fn.body.isSome = true) (hname : (fn.name == "runtime.NumGoroutine") = false) :
 CallOK P f args n L v n' L':=by
 intro φ a w o c x cap Q ho hc hx hargs hg hfree
 have hrun:(execOp a.eval o).run P w=.ok (.enter f (c.args.map a.eval++cap)) w:=by
  have h1 : ¬ fn.name = "runtime.NumGoroutine" := by simpa using hname
  have h2: ¬fn.body=none:=by intro e;rw[e] at hbody;cases hbody
  simp[execOp,ho,resolve,hc,Deferred.ofValue,hx,invoke,callFunc,hfn,h1,h2]
 unfold Oper.wp;rw[hrun,Oper.upon_enter];have hcall:=h φ (c.args.toList.map a.eval++cap.toList) w hargs hg hfree
 have e:(c.args.toList.map a.eval++cap.toList).toArray=c.args.map a.eval++cap:=by apply Array.ext';simp
 rw[e] at hcall;refine Calls.mono hcall ?_;rintro en w' ⟨φ',y,rfl,hv,hg',hnone,st,hn,hag⟩;exact⟨φ',y,rfl,hv,hg',st,hag,hnone⟩
theorem Bc {φ:Ph}:∀ {ps:List (Nat×Nat)} {vs:List Value},All2 (PtrR φ) ps vs->All2 (Vr φ) (Bd ps) vs
 |[],[],_=>trivial
 |p::ps,v::vs,h=>by
  obtain⟨b,hb,hv⟩:=h.1;exact⟨⟨b,hb,hv⟩,Bc h.2⟩
 |[],_::_,h=>h.elim
 |_::_,[],h=>h.elim
theorem Fz {φ:Ph} {v:V} {f:FuncId} {y:Value} (h:tf v=some f) (hv:Vr φ v y):∃ cap:Array Value,y=.func (.func f) #[] cap/\All2 (Vr φ) (j9 v) cap.toList:=by
 unfold tf at h;split at h
 ·split at h
  ·cases h;exact⟨#[],hv,trivial⟩
  ·cases h;obtain⟨vs,h1,h2⟩:=hv;exact⟨vs.toArray,h1,Bc h2⟩
  ·cases h
 ·cases h
theorem vr {n:Nat}:∀ {ps:List (Nat×Nat)},(ps.all fun p=>Nat.blt p.1 n)=true->∀ y∈Bd ps,okV n y=true
 |[],_,y,hy=>by cases hy
 |p::t,h,y,hy=>by
  simp only[List.all_cons,Bool.and_eq_true] at h;simp only[Bd,List.mem_cons] at hy
  rcases hy with rfl|hy
  ·exact h.1
  ·exact vr h.2 y hy
theorem rP {n:Nat} {v:V} (h:okV n v=true):∀ y∈j9 v,okV n y=true:=by
 unfold j9;split
 ·split
  ·exact vr h
  ·intro y hy;cases hy
 ·intro y hy;cases hy
theorem Stp.congrL {φ φ':Ph} {L M L':Hp} {w w':World} (h:Stp φ L w φ' L' w') (e:∀ i,lk L i=lk M i):Stp φ M w φ' L' w':=
 ⟨h.os,h.tape,h.output,h.size,fun b hb hn=>h.keep b hb fun⟨i,bl,c,h1,h2⟩=>hn ⟨i,bl,c,by rw[<-e i];exact h1,h2⟩,fun j bl b hj hb hlt=>by
  obtain⟨k,bk,c,hk,r⟩:=h.fresh j bl b hj hb hlt
  exact⟨k,bk,c,by rw[<-e k];exact hk,r⟩,h.zle,fun b l hb=>(h.zfr b l hb).imp id (Or.imp id fun⟨i,bl,c,h1,h2⟩=>⟨i,bl,c,by rw[<-e i];exact h1,h2⟩)⟩
theorem nC {φ:Ph} {n:Nat}:∀ {l:List V} {vs:List Value},All2 (Vr φ) l vs->(∀ y∈l,okV n y=true)->All2 (Vr (aj n φ)) l vs
 |[],[],_,_=>trivial
 |y::l,v::vs,h,ok=>⟨h.1.cut (ok y (.head _)),nC h.2 fun z hz=>ok z (.tail _ hz)⟩
 |[],_::_,h,_=>h.elim
 |_::_,[],h,_=>h.elim
theorem CallOK.op {P:Program} {f:FuncId} {args:List V} {n:Nat} {L:Hp} {v:V} {n':Nat} {L':Hp} (h:CallOK P f args n L v n' L') (hn:n<=n') (ok:OH n L) {env:List V} (oke:OE n env) {o:Oper} {c:Call} {x:Operand} (ho:o.op=.call c) (hc:c.callee=.value x)
 (hx:tf (ev env x)=some f) (ha:c.args.toList.map (ev env)++j9 (ev env x)=args):OpL P o env n L v n' L':=by
 intro φ a w Q hop hg hf;obtain⟨cap,hxv,hcap⟩:=Fz hx (hop x (by rw[ho];simp only[Op.operands,Call.operands,hc];simp))
 have hargs:All2 (Vr (aj n φ)) args (c.args.toList.map a.eval++cap.toList):=by
  rw[<-ha];refine All2.append ?_ ((fun {l} {vs} (hl:All2 (Vr φ) l vs) (ok:∀ y∈l,okV n y=true)=>(nC hl ok)) hcap (rP (oke.at x)))
  have key:∀ l:List Operand,(∀ y∈l,Vr φ (ev env y) (a.eval y))->All2 (Vr (aj n φ)) (l.map (ev env)) (l.map a.eval):=by
   intro l
   induction l with
   |nil=>intro _;trivial
   |cons y t ih=>intro hl;exact⟨(hl y (.head _)).cut (oke.at y),ih fun z hz=>hl z (.tail _ hz)⟩
  refine key _ fun y hy=>hop y ?_
  rw[ho];simp only[Op.operands,Call.operands,hc];simp at hy |-;exact .inr hy
 refine Oper.wp_mono ?_ (h (aj n φ) a w o c x cap Q ho hc hxv hargs (hg.cutO ok) (fun i hi=>by simp[aj];omega));rintro a' w' ⟨φc,y,rfl,hv,hg',st,hag,hnone⟩
 let φ':Ph:=⟨fun i=>if n<=i/\i<n' then φc i else φ i,φc.z⟩
 have lt:∀ i b,φc i=some b->i<n':=fun i b hb=>by
  rcases Nat.lt_or_ge i n' with h|h
  ·exact h
  ·rw[hnone i h] at hb;cases hb
 have hle:φc.le φ':=by
  refine⟨fun i b hb=>?_,fun _ _ h=>h⟩;have:=lt i b hb;simp only[φ'];split
  ·exact hb
  ·rename_i hi
   have hin:i<n:=by omega
   rw[hag i hin] at hb;simp only[aj,if_pos hin] at hb;exact hb
 have cutle:(aj n φ).le φ:=by
  refine⟨fun i b hb=>?_,fun _ _ h=>h⟩;simp only[aj] at hb;split at hb
  ·exact hb
  ·cases hb
 have back:∀ i bl b,lk L' i=some bl->φ' i=some b->φc i=some b:=by
  intro i bl b hi hb;obtain⟨c0,hc0,_⟩:=hg'.hr i bl hi;have:=hle i c0 hc0;rw[hb] at this;cases this;exact hc0
 refine⟨φ',y,rfl,hv.mono hle,⟨fun i bl hi=>?_,fun i j bl bl' b b' hi hj hb hb'=>?_,fun b l hb=>⟨(hg'.fz b l hb).1,fun⟨i,bl,c,h1,h2,h3⟩=>(hg'.fz b l hb).2 ⟨i,bl,c,h1,back i bl c h1 h2,h3⟩⟩,hg'.gz⟩,⟨st.os,st.tape,st.output,st.size,fun b hb hnw=>st.keep b hb fun⟨i,bl,c0,h1,h2,h3⟩=>hnw ⟨i,bl,c0,h1,cutle i c0 h2,h3⟩,fun j bl b hj hb hlt=>?_,st.zle,fun b l hb=>(st.zfr b l hb).imp id (Or.imp id fun⟨i,bl,c,h1,h2,h3⟩=>⟨i,bl,c,h1,cutle i c h2,h3⟩)⟩,fun i hi=>by simp only[φ'];rw[if_neg hi]⟩
 ·obtain⟨b,hb,hat⟩:=hg'.hr i bl hi
  exact⟨b,hle i b hb,hat.mono hle rfl⟩
 ·exact hg'.inj i j bl bl' b b' hi hj (back i bl b hi hb) (back j bl' b' hj hb')
 ·obtain⟨k,bk,c0,hk,hpk,rest⟩:=st.fresh j bl b hj (back j bl b hj hb) hlt
  exact⟨k,bk,c0,hk,cutle k c0 hpk,rest⟩
theorem rx (L L':Hp):∃ W:Hp,(∀ M:Hp,(∀ i,lk M i=lk L i)->∀ i,lk (puts M W) i=lk L' i)/\(∀ t∈az W,lk L t≠lk L' t):=by
 have key:∀ ks:List Nat,∃ W:Hp,(∀ i∈az W,lk L i≠lk L' i)/\(∀ e∈W,e.2=lk L' e.1)/\(∀ i∈ks,lk L i≠lk L' i->i∈az W):=by
  intro ks
  induction ks with
  |nil=>exact⟨[],by simp[az],by simp,by simp⟩
  |cons k t ih=>
   obtain⟨W,h1,h2,h3⟩:=ih;by_cases hk:lk L k=lk L' k
   ·refine⟨W,h1,h2,fun i hi hne=>?_⟩
    rcases List.mem_cons.1 hi with rfl|hi
    ·exact absurd hk hne
    ·exact h3 i hi hne
   ·refine⟨(k,lk L' k)::W,?_,?_,?_⟩
    ·intro i hi
     simp only[az,List.map_cons,List.mem_cons] at hi
     rcases hi with rfl|hi
     ·exact hk
     ·exact h1 i hi
    ·intro e he
     rcases List.mem_cons.1 he with rfl|he
     ·rfl
     ·exact h2 e he
    ·intro i hi hne
     simp only[az,List.map_cons,List.mem_cons]
     rcases List.mem_cons.1 hi with rfl|hi
     ·exact .inl rfl
     ·exact .inr (h3 i hi hne)
 obtain⟨W,h1,h2,h3⟩:=key (az L++az L');refine⟨W,fun M hM i=>?_,h1⟩;by_cases hi:i∈az W
 ·obtain⟨c,hc,he⟩:=dz W M i hi
  rw[he];exact h2 _ hc
 ·rw[aN _ _ _ hi,hM i]
  by_cases hne:lk L i=lk L' i
  ·exact hne
  ·exfalso
   by_cases hks:i∈az L++az L'
   ·exact hi (h3 i hks hne)
   ·simp only[List.mem_append,not_or] at hks
    exact hne (by rw[oM hks.1,oM hks.2])
def gq (L:Hp):List Nat:=(az L).filter fun i=>(lk L i).isSome
theorem v_ {L:Hp} {i:Nat} (h:i∈gq L):∃ bl,lk L i=some bl:=by
 simp only[gq,List.mem_filter] at h;exact Option.isSome_iff_exists.1 h.2
theorem qz (L:Hp) (i:Nat):lk (res (gq L) L) i=lk L i:=by
 rw[aE];split
 ·rfl
 ·rename_i h
  cases hl:lk L i with
  |none=>rfl
  |some bl=>
   exfalso;apply h;simp only[gq,List.mem_filter,hl,Option.isSome_some,and_true];by_cases hk:i∈az L
   ·exact hk
   ·rw[oM hk] at hl;cases hl
theorem OpL.full {P:Program} {o:Oper} {env:List V} {n:Nat} {L:Hp} {v:V} {n':Nat} {L':Hp} (h:OpL P o env n L v n' L') {W:Hp} (hW:∀ M:Hp,(∀ i,lk M i=lk L i)->∀ i,lk (puts M W) i=lk L' i):
 OpL P o env n (res (gq L) L) v n' (puts (res (gq L) L) W):=by
 intro φ a w Q hop hg hf
 have e1:∀ i,lk L i=lk (res (gq L) L) i:=fun i=>(qz L i).symm
 have e2:∀ i,lk (puts (res (gq L) L) W) i=lk L' i:=hW _ (qz L);refine Oper.wp_mono ?_ (h φ a w Q hop (hg.congr e1) hf);rintro a' w' ⟨φ',x,rfl,hv,hg',st,hag⟩;exact⟨φ',x,rfl,hv,hg'.congr e2,(st.congr e2).congrL e1,hag⟩
def Bit (ops:Array Oper) (j i:Nat):Prop:=((gc ops.toList []).getD j 0).testBit i=true
def Rq (ri rj:R):Prop:=∃ t,(t∈az ri.wr/\(t∈az rj.wr\/t∈rj.foot))\/(t∈az rj.wr/\t∈ri.foot)
def AccR:Acc->Nat->R->Prop
 | .op i' f w,i,r=>i'=i/\f=r.foot/\w=az r.wr
 | .call i' hb ha m,i,r=>i'=i/\(∀ t∈az r.wr,hb.get t≠ha.get t/\t<m)/\(∀ t∈r.foot,t<m)
def Cov (acs:List Acc) (i:Nat) (r:R):Prop:=(∃ a∈acs,AccR a i r)\/(r.foot=[]/\r.wr=[])
theorem AccR.i {a:Acc} {i:Nat} {r:R} (h:AccR a i r):a.i=i:=by cases a<;>exact h.1
theorem Cov.cons {acs:List Acc} {i:Nat} {r:R} (h:Cov acs i r) (a:Acc):Cov (a::acs) i r:=by
 rcases h with ⟨b,hb,hr⟩|h
 ·exact .inl ⟨b,.tail _ hb,hr⟩
 ·exact .inr h
theorem AY {a:Acc} {i:Nat} {ri rj:R} (h:AccR a i ri) (hc:vm a rj.foot (az rj.wr)=false): ¬Rq ri rj:=by
 rintro⟨t,ht⟩
 cases a with
 |op i' f w=>
  obtain⟨_,rfl,rfl⟩:=h;simp only[vm,cv,Bool.not_eq_false',Bool.and_eq_true] at hc
  rcases ht with ⟨h1,h2⟩|⟨h1,h2⟩
  ·exact cR hc.1 h1 (List.mem_append.2 h2)
  ·exact cR hc.2 h1 h2
 |call i' hb ha m=>
  obtain⟨_,h1,h2⟩:=h;simp only[vm,cv,Bool.not_eq_false',Bool.and_eq_true] at hc
  rcases ht with ⟨g1,g2|g2⟩|⟨g1,g2⟩
  ·have:=(h1 t g1).2;have:=lR hc.1 t g2;omega
  ·exact (h1 t g1).1 (jo hc.2 t g2)
  ·have:=h2 t g2;have:=lR hc.1 t g1;omega
theorem AW {a:Acc} {i:Nat} {ri rj:R} {hb ha:T Bl} (h:AccR a i ri) (hj:∀ t∈az rj.wr,hb.get t≠ha.get t) (hc:AX a hb ha=false): ¬Rq ri rj:=by
 rintro⟨t,ht⟩
 cases a with
 |op i' f w=>
  obtain⟨_,rfl,rfl⟩:=h;simp only[AX,cv,Bool.not_eq_false',Bool.and_eq_true] at hc;have hw:=oG hc.1
  rcases ht with ⟨h1,h2⟩|⟨h1,h2⟩
  ·rw[hw] at h1;cases h1
  ·exact hj t h1 (jo hc.2 t h2)
 |call i' hb ha m=>cases hc
def BL (P:Program) (kx:Oper->(Operand->V)->Nat->Hp->Option R):Prop:=∀ o env n L r,kx o (ev env) n L=some r->OutR P o env n L r
def BP (P:Program) (cl:Cl):Prop:=∀ f args n h v n' h',cl f args n h=.ok v n' h'->∀ L,HV L h->OH n L->OE n args->∃ L',HV L' h'/\OH n' L'/\okV n' v=true/\n<=n'/\CallOK P f args n L v n' L'
theorem gj {K:Kst} {o:Oper} {env:T V} {n:Nat} {h:T Bl} {acs:List Acc} {v:V} {k:KK} {x:Exit} {e:T V} {m:Nat} {M:T Bl} (hk:j0 K o env n h acs v k=.ok x e m M) {lv:List V} (he:EV K.nt env lv):
 ∃ env',k env' n h acs=.ok x e m M/\EV K.nt env' (aB lv o.dst v):=by
 obtain⟨env',h1,h2⟩:=Cb hk;exact⟨env',h2,he.set h1⟩
structure Stepped (K:Kst) (o:Oper) (j:Nat) (lv:List V) (n:Nat) (L:Hp) (acs:List Acc) (k:KK) (res:KO):Prop where
 ex:∃ (r:R) (env':T V) (h':T Bl) (acs':List Acc),StepOK K.P K.ops o r lv n L/\k env' r.n' h' acs'=res/\EV K.nt env' (aB lv o.dst r.v)/\HV (puts L r.wr) h'/\OE r.n' (aB lv o.dst r.v)/\OH r.n' (puts L r.wr)/\
  (K.dr=true->(∀ i ri,Cov acs i ri->Rq ri r->Bit K.ops j i)/\(∀ i ri,Cov acs i ri->Cov acs' i ri)/\Cov acs' j r)
theorem uv {K:Kst} {j:Nat} {acs:List Acc} {conf:Acc->Bool} {r:R} (h:vU (Fc K j) conf acs=true) (hc:∀ a i ri,AccR a i ri->conf a=false-> ¬Rq ri r):∀ i ri,Cov acs i ri->Rq ri r->Bit K.ops j i:=by
 intro i ri hcov hq
 rcases hcov with ⟨a,ha,har⟩|⟨h1,h2⟩
 ·cases hcf:conf a with
  |false=>exact absurd hq (hc a i ri har hcf)
  |true=>
   have:=uw h a ha hcf;rw[har.i] at this;exact this
 ·obtain⟨t,ht⟩:=hq
  rw[h1,h2] at ht
  rcases ht with ⟨h,_⟩|⟨_,h⟩<;>cases h
theorem CP {K:Kst} (hkx:BL K.P K.kx) (hcl:BP K.P K.cl) {o:Oper} {j:Nat} {env:T V} {n:Nat} {h:T Bl} {acs:List Acc} {k:KK} {x:Exit} {e:T V} {m:Nat} {M:T Bl} (hk:zu K o j env n h acs k=.ok x e m M)
 {lv:List V} {L:Hp} (he:EV K.nt env lv) (hv:HV L h) (oe:OE n lv) (oh:OH n L):Stepped K o j lv n L acs k (.ok x e m M):=by
 unfold zu at hk;rw[xv he] at hk;split at hk
 ·cases hk
 ·rename_i hw
  obtain⟨env',h1,h2⟩:=gj hk he;refine⟨⟨⟨[],.undef,[],n⟩,env',h,acs,.inr ⟨hw,rfl,rfl,rfl⟩,h1,h2,hv,oe.set _ rfl,oh,fun _=>⟨?_,fun _ _ h=>h,.inr ⟨rfl,rfl⟩⟩⟩⟩;rintro i ri _ ⟨t,ht⟩
  rcases ht with ⟨_,h|h⟩|⟨h,_⟩<;>cases h
 ·rename_i hw
  rw[he.ev] at hk;split at hk
  ·rename_i f hf
   unfold oV at hk;split at hk
   ·cases hk
   ·rename_i v n' h' hc
    have hcl':=hcl f _ n h v n' h' hc L hv oh (fun y hy=>by
     unfold jR at hy;split at hy
     ·split at hy
      ·rcases List.mem_append.1 hy with hy|hy
       ·obtain⟨z,_,rfl⟩:=List.mem_map.1 hy;exact oe.at z
       ·exact rP (oe.at _) y hy
      ·cases hy
     ·cases hy)
    obtain⟨L',hv',oh',okv,hn,hok⟩:=hcl';unfold callee at hf;split at hf
    ·rename_i c hop
     split at hf
     ·rename_i y hcy
      ·have hargs:jR (ev lv) o.op=c.args.toList.map (ev lv)++j9 (ev lv y):=by unfold jR;rw[hop];simp only[hcy]
       rw[hargs] at hok;have hopl:=hok.op hn oh oe hop hcy hf rfl;obtain⟨W,hW,hD⟩:=rx L L';have hfull:=hopl.full hW;have hst:StepOK K.P K.ops o ⟨gq L,v,W,n'⟩ lv n L:=.inl ⟨hw,hfull,hn⟩
       have hv2:HV (puts L W) h':=fun i=>by rw[hW L (fun _=>rfl) i];exact hv' i
       have oh2:OH n' (puts L W):=oh'.congr (hW L fun _=>rfl)
       have hne:∀ t∈az W,h.get t≠h'.get t:=fun t ht=>by rw[<-hv t,<-hv' t];exact hD t ht
       split at hk
       ·rename_i hdr
        obtain⟨env',h1,h2⟩:=gj hk he;exact⟨⟨⟨gq L,v,W,n'⟩,env',h',acs,hst,h1,h2,hv2,(oe.mono hn).set _ okv,oh2,fun e=>by rw[hdr] at e;cases e⟩⟩
       ·split at hk
        ·rename_i hord
         obtain⟨env',h1,h2⟩:=gj hk he;refine⟨⟨⟨gq L,v,W,n'⟩,env',h',_,hst,h1,h2,hv2,(oe.mono hn).set _ okv,oh2,fun _=>⟨uv hord fun a i ri har hcf=>AW har hne hcf,fun _ _ h=>h.cons _,.inl ⟨_,.head _,rfl,fun t ht=>⟨hne t ht,?_⟩,fun t ht=>?_⟩⟩⟩⟩
         ·have hd:=hD t ht
          cases hl:lk L t with
          |some bl=>exact Nat.lt_of_lt_of_le (oh t bl hl).1 hn
          |none=>
           cases hl':lk L' t with
           |some bl=>exact (oh' t bl hl').1
           |none=>rw[hl,hl'] at hd;exact absurd rfl hd
         ·obtain⟨bl,hbl⟩:=v_ ht
          exact Nat.lt_of_lt_of_le (oh t bl hbl).1 hn
        ·cases hk
     ·cases hf
    ·cases hf
  ·unfold oS at hk
   split at hk
   ·cases hk
   ·rename_i foot v wr n' hr
    split at hk
    ·cases hk
    ·rename_i hck
     simp only[Bool.and_eq_true] at hck;obtain⟨⟨⟨c1,c2⟩,c3⟩,c4⟩:=hck;have hn:=Nat.le_of_ble_eq_true c2;obtain⟨hopl,_⟩:=hkx o lv n _ _ hr
     have hres:res foot (v8 h (dA o.op (ev lv)))=res foot L:=by
      unfold res
      refine List.map_congr_left fun i hi=>?_
      rw[uC (qX c1 i hi),hv i]
     simp only[hres] at hopl;have hst:StepOK K.P K.ops o ⟨foot,v,wr,n'⟩ lv n L:=.inl ⟨hw,hopl,hn⟩
     have hput:∀ (acs':List Acc),zo K o env h acs' k v wr n'=.ok x e m M->∃ env' h',k env' n' h' acs'=.ok x e m M/\EV K.nt env' (aB lv o.dst v)/\HV (puts L wr) h':=by
      intro acs' hp;unfold zo at hp;rw[o0,de] at hp;split at hp
      ·obtain⟨env',h1,h2⟩:=gj hp he
       exact⟨env',h,h1,h2,hv⟩
      ·rw[iD] at hp
       obtain⟨env',h1,h2⟩:=gj hp he;exact⟨env',_,h1,h2,HV.puts (h:=h) wr hv⟩
     split at hk
     ·rename_i hd
      obtain⟨env',h',h1,h2,h3⟩:=hput _ hk;refine⟨⟨⟨foot,v,wr,n'⟩,env',h',acs,hst,h1,h2,h3,(oe.mono hn).set _ c3,OH.puts wr (oh.mono hn) c4,fun e=>?_⟩⟩;simp only[e,ce,Bool.false_or,Bool.and_eq_true] at hd;have f0:=oG hd.1;have w0:=oG hd.2;refine⟨?_,fun _ _ h=>h,.inr ⟨f0,w0⟩⟩;rintro i ri _ ⟨t,ht⟩;simp only[f0,w0,az] at ht
      rcases ht with ⟨_,h|h⟩|⟨h,_⟩<;>cases h
     ·split at hk
      ·rename_i hord
       obtain⟨env',h',h1,h2,h3⟩:=hput _ hk;exact⟨⟨⟨foot,v,wr,n'⟩,env',h',_,hst,h1,h2,h3,(oe.mono hn).set _ c3,OH.puts wr (oh.mono hn) c4,fun _=>⟨uv hord fun a i ri har hcf=>AY (rj:=⟨foot,v,wr,n'⟩) har hcf,fun _ _ h=>h.cons _,.inl ⟨_,.head _,rfl,rfl,rfl⟩⟩⟩⟩
      ·cases hk
theorem uJ {K:Kst} (hkx:BL K.P K.kx) (hcl:BP K.P K.cl):∀ (l:List Oper) (j:Nat) (env:T V) (n:Nat) (h:T Bl) (acs:List Acc) (x:Exit) (e:T V) (m:Nat) (M:T Bl),s6 K l j env n h acs=.ok x e m M->
 ∀ (lv:List V) (L:Hp),EV K.nt env lv->HV L h->OE n lv->OH n L->
 ∃ rows:List Row,x=.normal/\rows.map (·.1)=l/\RunOK K.P K.ops rows lv n L/\EV K.nt e (eD (fun _=>true) j rows lv)/\m=nAt rows n rows.length/\HV (hD (fun _=>true) j rows L) M/\OE m (eD (fun _=>true) j rows lv)/\OH m (hD (fun _=>true) j rows L)/\
   (K.dr=true->(∀ i r,Cov acs i r->∀ k o rk,rows[k]? =some (o,rk)->Rq r rk->Bit K.ops (j+k) i)/\(∀ (k k':Nat) o r o' r',k<k'->rows[k]? =some (o,r)->rows[k']? =some (o',r')->Rq r r'->Bit K.ops (j+k') (j+k)))
 |[],j,env,n,h,acs,x,e,m,M,hk,lv,L,he,hv,oe,oh=>by
  simp only[s6] at hk;cases hk;exact⟨[],rfl,rfl,trivial,he,rfl,hv,oe,oh,fun _=>⟨fun _ _ _ k o rk h=>by simp at h,fun k k' o r o' r' _ h=>by simp at h⟩⟩
 |o::os,j,env,n,h,acs,x,e,m,M,hk,lv,L,he,hv,oe,oh=>by
  simp only[s6] at hk;obtain⟨r,env',h',acs',h1,h2,h3,h4,h5,h6,h7⟩:=(CP hkx hcl hk he hv oe oh).ex;obtain⟨rows,g1,g2,g3,g4,g5,g6,g7,g8,g9⟩:=uJ hkx hcl os (Nat.succ j) env' r.n' h' acs' x e m M h2 _ _ h3 h4 h5 h6;refine⟨(o,r)::rows,g1,by simp[g2],⟨h1,g3⟩,g4,by simpa [nAt] using g5,g6,g7,g8,fun hd=>?_⟩;obtain⟨q1,q2,q3⟩:=h7 hd;obtain⟨p1,p2⟩:=g9 hd;refine⟨fun i ri hc k o' rk hr hq=>?_,fun k k' o1 r1 o2 r2 hlt hr1 hr2 hq=>?_⟩
  ·cases k with
   |zero=>
    simp only[List.getElem?_cons_zero,Option.some.injEq,Prod.mk.injEq] at hr;obtain⟨rfl,rfl⟩:=hr;exact q1 i ri hc hq
   |succ k=>
    have:=p1 i ri (q2 i ri hc) k o' rk (by simpa using hr) hq
    rwa [show Nat.succ j+k=j+(k+1) by omega] at this
  ·cases k' with
   |zero=>omega
   |succ k'=>
    cases k with
    |zero=>
     simp only[List.getElem?_cons_zero,Option.some.injEq,Prod.mk.injEq] at hr1;obtain⟨rfl,rfl⟩:=hr1;have:=p1 j r q3 k' o2 r2 (by simpa using hr2) hq
     rwa [show Nat.succ j+k'=j+(k'+1) by omega] at this
    |succ k=>
     have:=p2 k k' o1 r1 o2 r2 (by omega) (by simpa using hr1) (by simpa using hr2) hq
     rwa [show Nat.succ j+k'=j+(k'+1) by omega,show Nat.succ j+k=j+(k+1) by omega] at this
theorem Cn {ops:Array Oper} {rows:List Row} (hops:rows.map (·.1)=ops.toList) (h:vP ops=true) (hb:∀ (k k':Nat) o r o' r',k<k'->rows[k]? =some (o,r)->rows[k']? =some (o',r')->Rq r r'->Bit ops k' k):RegOK ops rows:=by
 unfold vP at h;simp only[Bool.and_eq_true] at h;obtain⟨h1,h2⟩:=h
 have down:∀ (i:Nat) o,ops[i]? =some o->∀ e∈o.after.toList,Region.binds .any e=true->e.on<i:=by
  intro i o hi e he hb;have:=List.all_eq_true.1 h1 (o,i) (List.mem_zipIdx_iff_getElem?.2 (by simpa using hi));have:=List.all_eq_true.1 this e he;simp only[hb,Bool.not_true,Bool.false_or] at this;exact al.1 this
 have hlen:rows.length=ops.size:=by rw[<-Array.length_toList,<-hops,List.length_map]
 have opAt:∀ (i:Nat) o r,rows[i]? =some (o,r)->ops.toList[i]? =some o:=fun i o r hi=>by rw[<-hops,List.getElem?_map,hi];rfl
 have bef:∀ (i j:Nat) (o:Oper) (r:R),rows[j]? =some (o,r)->Bit ops j i->Bef ops i j:=by
  intro i j o r hj hbit D hc hD
  have hjl:j<rows.length:=by
   rcases Nat.lt_or_ge j rows.length with h|h
   ·exact h
   ·simp[List.getElem?_eq_none h] at hj
  exact lC hc down ops.toList [] (fun j=>by simp) (fun k hk=>by simp at hk) j (by rw[fo];simp;omega) i hbit hD
 refine⟨hops,down,?_,?_⟩
 ·intro i j oi ri oj rj t hij hi hj hcase
  have g1:=List.all_eq_true.1 h2 (oj,j) (List.mem_zipIdx_iff_getElem?.2 (opAt j oj rj hj));have g2:=List.all_eq_true.1 g1 (oi,i) (List.mem_zipIdx_iff_getElem?.2 (opAt i oi ri hi));simp only[al.2 hij,Bool.not_true,Bool.false_or,Bool.or_eq_true] at g2
  rcases g2 with g2|g2
  ·exfalso
   simp only[DV,Bool.and_eq_true] at g2
   rcases hcase with ⟨e1,e2|e2⟩|⟨e1,e2⟩
   ·exact cR g2.1 (x:=t) (by simp[e1]) (by simp[e2])
   ·exact cR g2.1 (x:=t) (by simp[e1]) (by simp[e2])
   ·exact cR g2.2 (x:=t) (by simp[e1]) e2
  ·exact bef i j oj rj hj g2
 ·intro i j oi ri oj rj t hij hi hj hcase
  exact bef i j oj rj hj (hb i j oi ri oj rj hij hi hj ⟨t,hcase⟩)
set_option maxRecDepth 100000
def ExL (P:Program) (b:Nat) (c:Code) (k:Nat) (env:List V) (n:Nat) (L:Hp) (R:Post):Prop:=
 ∀ (φ:Ph) (a:Act) (w:World),EnvR φ env a->Good φ L w->(∀ i,n<=i->φ i=none)->b<=n->
   Code.rounds P c (fun x a' w'=>∃ φ' env' n' L',R x env' n' L'/\EnvR φ' env' a'/\Good φ' L' w'/\(∀ i,n'<=i->φ' i=none)/\b<=n'/\Stp φ L w φ' L' w'/\(∀ i,i<b->φ' i=φ i)) k a w
theorem ExL.loop {P:Program} {b:Nat} {c:Code} {k:Nat} {env:List V} {n:Nat} {L:Hp} {R:Post} (h:ExL P b c k env n L R):Ex P b (.loop c) env n L R:=
 fun φ a w h1 h2 h3 h4=>wp_loop_rounds k (h φ a w h1 h2 h3 h4)
theorem jW {P:Program} {c:Code} {Q Q':Exit->Act->World->Prop} (hq:∀ x a w,Q x a w->Q' x a w):∀ {k:Nat} {a:Act} {w:World},Code.rounds P c Q k a w->Code.rounds P c Q' k a w
 |0,_,_,h=>h
 |k+1,a,w,h=>by
  rw[rounds_succ] at h |-;refine wp_mono h ?_;intro x a' w' hx
  cases x with
  |normal=>exact jW hq hx
  |_=>exact hq _ _ _ hx
theorem ExL.step {P:Program} {b:Nat} {c:Code} {k:Nat} {env:List V} {n:Nat} {L:Hp} {R:Post} {e:List V} {m:Nat} {M:Hp} (h:Ex P b c env n L (One .normal e m M)) (hr:ExL P b c k e m M R):ExL P b c (k+1) env n L R:=by
 intro φ a w h1 h2 h3 h4;rw[rounds_succ];refine wp_mono (h φ a w h1 h2 h3 h4) ?_;rintro x a' w' ⟨φ',e',m',M',⟨rfl,rfl,rfl,rfl⟩,g1,g2,g3,g4,g5,g6⟩;simp only[Exit.then];refine jW ?_ (hr φ' a' w' g1 g2 g3 g4);rintro x a'' w'' ⟨φ'',e'',m'',M'',hR,k1,k2,k3,k4,k5,k6⟩;exact⟨φ'',e'',m'',M'',hR,k1,k2,k3,k4,g5.trans k5,fun i hi=>(k6 i hi).trans (g6 i hi)⟩
theorem ExL.last {P:Program} {b:Nat} {c:Code} {k:Nat} {env:List V} {n:Nat} {L:Hp} {x:Exit} {e:List V} {m:Nat} {M:Hp} (h:Ex P b c env n L (One x e m M)) (hx:x≠.normal):ExL P b c (k+1) env n L (One x e m M):=by
 intro φ a w h1 h2 h3 h4;rw[rounds_succ];refine wp_mono (h φ a w h1 h2 h3 h4) ?_;rintro x' a' w' ⟨φ',e',m',M',⟨rfl,rfl,rfl,rfl⟩,g⟩
 cases x' with
 |normal=>exact absurd rfl hx
 |_=>exact⟨φ',e',m',M',⟨rfl,rfl,rfl,rfl⟩,g⟩
def BK (P:Program) (nt:Nat) (c:Code) (env:T V) (n:Nat) (h:T Bl) (x:Exit) (e:T V) (m:Nat) (M:T Bl):Prop:=
 ∀ (b:Nat) (lv:List V) (L:Hp),EV nt env lv->HV L h->OE n lv->OH n L->∃ lv' L',EV nt e lv'/\HV L' M/\OE m lv'/\OH m L'/\Ex P b c lv n L (One x lv' m L')
theorem qv {P:Program} {nt:Nat} {c:Code} {body:T V->Nat->T Bl->KO} (hb:∀ env n h x e m M,body env n h=.ok x e m M->BK P nt c env n h x e m M):∀ (f:Nat) (env:T V) (n:Nat) (h:T Bl) (x:Exit) (e:T V) (m:Nat) (M:T Bl),
 qw f body env n h=.ok x e m M->∀ (b:Nat) (lv:List V) (L:Hp),EV nt env lv->HV L h->OE n lv->OH n L->∃ lv' L',EV nt e lv'/\HV L' M/\OE m lv'/\OH m L'/\∃ k,ExL P b c k lv n L (One x lv' m L')
 |0,_,_,_,_,_,_,_,hk=>by cases hk
 |f+1,env,n,h,x,e,m,M,hk=>by
  intro b lv L he hv oe oh;simp only[qw] at hk;split at hk
  ·rename_i e1 m1 M1 h1
   obtain⟨lv1,L1,g1,g2,g3,g4,g5⟩:=hb _ _ _ _ _ _ _ h1 b lv L he hv oe oh;obtain⟨lv',L',k1,k2,k3,k4,k,k5⟩:=qv hb f _ _ _ _ _ _ _ hk b lv1 L1 g1 g2 g3 g4;exact⟨lv',L',k1,k2,k3,k4,k+1,ExL.step g5 k5⟩
  ·rename_i hne
   obtain⟨lv1,L1,g1,g2,g3,g4,g5⟩:=hb _ _ _ _ _ _ _ hk b lv L he hv oe oh;refine⟨lv1,L1,g1,g2,g3,g4,1,ExL.last (k:=0) g5 ?_⟩;rintro rfl;exact hne _ _ _ hk
theorem GF {P:Program} (hm:P.follows .mixedOrders=true) {kx:Oper->(Operand->V)->Nat->Hp->Option R} {cl:Cl} {lf nt:Nat} (hkx:BL P kx) (hcl:BP P cl):∀ (c:Code) (env:T V) (n:Nat) (h:T Bl) (x:Exit) (e:T V) (m:Nat) (M:T Bl),
 kC P kx cl lf nt c env n h=.ok x e m M->BK P nt c env n h x e m M:=by
 intro c
 induction c with
 |skip=>intro env n h x e m M hk b lv L he hv oe oh;simp only[kC] at hk;cases hk;exact⟨lv,L,he,hv,oe,oh,Ex.skip ⟨rfl,rfl,rfl,rfl⟩⟩
 |ret=>intro env n h x e m M hk b lv L he hv oe oh;simp only[kC] at hk;cases hk;exact⟨lv,L,he,hv,oe,oh,Ex.ret ⟨rfl,rfl,rfl,rfl⟩⟩
 |exit id=>intro env n h x e m M hk b lv L he hv oe oh;simp only[kC] at hk;cases hk;exact⟨lv,L,he,hv,oe,oh,Ex.exit ⟨rfl,rfl,rfl,rfl⟩⟩
 |seq p q ihp ihq=>
  intro env n h x e m M hk b lv L he hv oe oh;simp only[kC] at hk;split at hk
  ·rename_i e1 m1 M1 h1
   obtain⟨lv1,L1,g1,g2,g3,g4,g5⟩:=ihp _ _ _ _ _ _ _ h1 b lv L he hv oe oh;obtain⟨lv2,L2,k1,k2,k3,k4,k5⟩:=ihq _ _ _ _ _ _ _ hk b lv1 L1 g1 g2 g3 g4;refine⟨lv2,L2,k1,k2,k3,k4,Ex.seq (g5.mono ?_)⟩;rintro x e m M ⟨rfl,rfl,rfl,rfl⟩;exact k5
  ·rename_i hne
   obtain⟨lv1,L1,g1,g2,g3,g4,g5⟩:=ihp _ _ _ _ _ _ _ hk b lv L he hv oe oh;refine⟨lv1,L1,g1,g2,g3,g4,Ex.seq (g5.mono ?_)⟩;rintro x' e' m' M' ⟨rfl,rfl,rfl,rfl⟩
   cases x' with
   |normal=>exact absurd hk (hne _ _ _)
   |_=>exact⟨rfl,rfl,rfl,rfl⟩
 |cond c p q ihp ihq=>
  intro env n h x e m M hk b lv L he hv oe oh;simp only[kC] at hk;split at hk
  ·rename_i t ht
   rw[he.ev] at ht;split at hk
   ·obtain⟨lv1,L1,g1,g2,g3,g4,g5⟩:=ihp _ _ _ _ _ _ _ hk b lv L he hv oe oh
    exact⟨lv1,L1,g1,g2,g3,g4,Ex.cond ht g5⟩
   ·obtain⟨lv1,L1,g1,g2,g3,g4,g5⟩:=ihq _ _ _ _ _ _ _ hk b lv L he hv oe oh
    exact⟨lv1,L1,g1,g2,g3,g4,Ex.cond ht g5⟩
  ·cases hk
 |block id c ih=>
  intro env n h x e m M hk b lv L he hv oe oh;simp only[kC] at hk;split at hk
  ·rename_i id' e1 m1 M1 h1
   obtain⟨lv1,L1,g1,g2,g3,g4,g5⟩:=ih _ _ _ _ _ _ _ h1 b lv L he hv oe oh;split at hk
   ·rename_i hb
    cases hk;refine⟨lv1,L1,g1,g2,g3,g4,Ex.block (g5.mono ?_)⟩;rintro x' e' m' M' ⟨rfl,rfl,rfl,rfl⟩;simp only[InBlock,hb];exact⟨rfl,rfl,rfl,rfl⟩
   ·rename_i hb
    cases hk;refine⟨lv1,L1,g1,g2,g3,g4,Ex.block (g5.mono ?_)⟩;rintro x' e' m' M' ⟨rfl,rfl,rfl,rfl⟩;simp only[InBlock,hb];exact⟨rfl,rfl,rfl,rfl⟩
  ·rename_i hne
   obtain⟨lv1,L1,g1,g2,g3,g4,g5⟩:=ih _ _ _ _ _ _ _ hk b lv L he hv oe oh;refine⟨lv1,L1,g1,g2,g3,g4,Ex.block (g5.mono ?_)⟩;rintro x' e' m' M' ⟨rfl,rfl,rfl,rfl⟩
   cases x' with
   |exit id'=>exact absurd hk (hne _ _ _ _)
   |_=>exact⟨rfl,rfl,rfl,rfl⟩
 |loop c ih=>
  intro env n h x e m M hk b lv L he hv oe oh;simp only[kC] at hk;obtain⟨lv',L',k1,k2,k3,k4,k,k5⟩:=qv (fun env n h x e m M hb=>ih env n h x e m M hb) _ _ _ _ _ _ _ _ hk b lv L he hv oe oh;exact⟨lv',L',k1,k2,k3,k4,k5.loop⟩
 |region id ops d=>
  intro env n h x e m M hk b lv L he hv oe oh;simp only[kC] at hk;split at hk
  ·rename_i hd
   obtain⟨rows,rfl,g2,g3,g4,rfl,g6,g7,g8,g9⟩:=uJ (K:=⟨P,kx,cl,nt,ops,d⟩) hkx hcl _ _ _ _ _ _ _ _ _ _ hk lv L he hv oe oh;refine⟨_,_,g4,g6,g7,g8,?_⟩
   cases d with
   |false=>exact Ex.regionText g2 g3 ⟨rfl,rfl,rfl,rfl⟩
   |true=>
    have hreg:vP ops=true:=by simpa [ce] using hd
    refine Ex.regionDraw hm (Cn g2 hreg fun k k' o r o' r' hlt h1 h2 hq=>?_) g3 ⟨rfl,rfl,rfl,rfl⟩;have:=(g9 rfl).2 k k' o r o' r' hlt h1 h2 hq
    simpa using this
  ·cases hk
 |rangeFunc f p a b=>intro env n h x e m M hk;simp only[kC] at hk;cases hk
 |scope b=>intro env n h x e m M hk;simp only[kC] at hk;cases hk
 |label l=>intro env n h x e m M hk;simp only[kC] at hk;cases hk
 |goto l=>intro env n h x e m M hk;simp only[kC] at hk;cases hk
 |refuse w=>intro env n h x e m M hk;simp only[kC] at hk;cases hk
theorem Ci {P:Program} {fn:Func} {nt:Nat} {env:T V} {lv:List V} {h:T Bl} {L:Hp} (he:EV nt env lv) (hv:HV L h):Cj P fn env h=eJ P fn lv L:=by
 have one:∀ x,kw P env h x=hJ P lv L x:=by
  intro x
  cases x with
  |tmp t=>simp only[kw,hJ,<-he.at' t]
  |cell t ty=>
   simp only[kw,hJ,<-he.at' t]
   cases lv.getD t .undef with
   |s y=>cases y with
    |ptr a=>
     rcases a with _|⟨i,o⟩
     ·rfl
     ·simp only[hv i];rfl
    |_=>rfl
   |_=>rfl
 have all:∀ l,uo P env h l=ol P lv L l:=by
  intro l
  induction l with
  |nil=>rfl
  |cons x t ih=>simp only[uo,ol,one x,ih];rfl
 simp only[Cj,eJ,all];rfl
theorem rA {nt:Nat}:∀ (args:List V) (i:Nat) (t:T V),i+args.length<=nt->∀ j,(lZ args i t).get j=if i<=j/\j<i+args.length then args[j-i]? else t.get j
 |[],i,t,_,j=>by simp only[lZ,List.length_nil,Nat.add_zero];rw[if_neg (by omega)]
 |v::r,i,t,h,j=>by
  simp only[lZ,T.putK_eq];rw[rA (nt:=nt) r (Nat.succ i) _ (by simp at h;omega) j,T.get_put];simp only[List.length_cons];by_cases h1:i=j
  ·subst h1;rw[if_neg (by omega),if_pos rfl,if_pos (by omega)];simp
  ·by_cases h2:i<=j/\j<i+(r.length+1)
   ·have h3:Nat.succ i<=j/\j<Nat.succ i+r.length:=by omega
    rw[if_pos h3,if_pos h2,show j-i=(j-Nat.succ i)+1 by omega];simp
   ·rw[if_neg (by omega),if_neg h1,if_neg h2]
theorem EV.start {args:List V} {nt:Nat} (h:args.length<=nt):EV nt (lZ args 0 .nil) (args++List.replicate (nt-args.length) .undef):=by
 refine⟨by simp;omega,fun t=>?_⟩;unfold ta;rw[rA (nt:=nt) args 0 .nil (by omega) t,T.get_nil];simp only[Nat.zero_le,true_and,Nat.zero_add,Nat.sub_zero,List.getD_eq_getElem?_getD];by_cases ht:t<args.length
 ·rw[if_pos ht,List.getElem?_append_left ht,List.getElem?_eq_getElem ht];rfl
 ·rw[if_neg ht,List.getElem?_append_right (by omega),List.getElem?_replicate]
  split<;>rfl
theorem SC.direct {P:Program} {f:FuncId} {fn:Func} {c:Code} {args:List V} {n:Nat} {L:Hp} {x:Exit} {env:List V} {v:V} {m:Nat} {M:Hp} (hf:P.funcs[f]? =some fn) (hb:fn.body=some c)
 (h:Ex P n c (args++List.replicate (fn.ntmps-args.length) .undef) n L (One x env m M)) (hx:x=.ret\/x=.normal) (hv:eJ P fn env M=some v):SC P f args n L v m M:=by
 intro φ xs w ha hg hnone;have hlen:=ha.len;refine calls_of_wp hf hb (wp_mono (h φ _ w ⟨rfl,?_⟩ hg hnone (Nat.le_refl _)) ?_)
 ·have:(xs.toArray++Array.replicate (fn.ntmps-xs.toArray.size) Go.undef).toList=xs++List.replicate (fn.ntmps-args.length) Go.undef:=by simp[hlen]
  rw[this];refine ha.append ?_;generalize fn.ntmps-args.length=k
  induction k with
  |zero=>simp[All2]
  |succ k ih=>simp only[List.replicate_succ];exact⟨rfl,ih⟩
 rintro x' a' w' ⟨φ',env',m',M',⟨rfl,rfl,rfl,rfl⟩,g1,g2,g3,g4,g5,g6⟩;obtain⟨y,hy,hr⟩:=x9 g1 g2 hv
 have post:a'.defers=[]/\∃ v',(results fn a'.tmps).run P w'=.ok v' w'/\∃ φ' x,Ending.returned v'=.returned x/\Vr φ' v x/\Good φ' M' w'/\(∀ i,m'<=i->φ' i=none)/\Stp φ L w φ' M' w'/\n<=m'/\(∀ i,i<n->φ' i=φ i):=
  ⟨g1.1,y,hy,φ',y,rfl,hr,g2,g3,g5,g4,g6⟩
 rcases hx with rfl|rfl<;>exact post
theorem uH {P:Program} (hm:P.follows .mixedOrders=true) {kx:Oper->(Operand->V)->Nat->Hp->Option R} {cl:Cl} {lf:Nat} (hkx:BL P kx) (hcl:BP P cl) {f:FuncId} {fn:Func} {c:Code} (hf:P.funcs[f]? =some fn) (hb:fn.body=some c)
 {args:List V} {n:Nat} {h:T Bl} {v:V} {n':Nat} {h':T Bl} (hk:CO P kx lf cl fn c args n h=.ok v n' h') {L:Hp} (hv:HV L h) (oh:OH n L) (oe:OE n args):∃ L',HV L' h'/\OH n' L'/\okV n' v=true/\n<=n'/\SC P f args n L v n' L':=by
 unfold CO at hk;split at hk
 ·cases hk
 ·rename_i hlen
  have hlen:=Nat.le_of_ble_eq_true hlen;split at hk
  ·cases hk
  ·rename_i x e m M hc
   split at hk
   ·rename_i hx
    split at hk
    ·rename_i v' hr
     rw[o0] at hk;split at hk
     ·rename_i hok
      simp only[Bool.and_eq_true] at hok;cases hk
      obtain⟨lv',L',k1,k2,k3,k4,k5⟩:=GF hm hkx hcl c _ _ _ _ _ _ _ hc n _ L (EV.start hlen) hv (fun y hy=>by
       rcases List.mem_append.1 hy with hy|hy
       ·exact oe y hy
       ·rw[(List.mem_replicate.1 hy).2];rfl) oh
      rw[Ci k1 k2] at hr;refine⟨L',k2,k4,hok.1,Nat.le_of_ble_eq_true hok.2,SC.direct hf hb k5 ?_ hr⟩
      cases x<;>first|exact .inl rfl|exact .inr rfl|cases hx
     ·cases hk
    ·cases hk
   ·cases hk
theorem Ed (P:Program):BL P (kx P):=by
 intro o env n L r h;unfold kx at h;split at h
 ·rename_i t x ix ok ho;cases h
 ·rename_i t m k v ho;cases h
 ·rename_i t r' ho;cases h
 ·rename_i fn a b ho
  obtain⟨s,hs,rfl⟩:=bO h;cases hs
 ·rename_i t x ho;cases h
 ·rename_i x s ho;cases h
 ·rename_i x ho;cases h
 ·rename_i op t x y ty ho
  split at h
  ·rename_i s hs
   cases h;refine oP ?_;simp only[kop,ho,hs,lgt]
  ·obtain⟨s,hs,rfl⟩:=bO h
   cases hs
 ·rename_i src dst x ho
  split at h
  ·rename_i r' hr;cases h;exact oP hr
  ·obtain⟨s,hs,rfl⟩:=bO h
   cases hs
 ·rename_i c ho
  split at h
  ·rename_i r' hr;cases h;exact oP hr
  ·split at h
   ·rename_i x y hc hargs;cases h
   ·rename_i x hc hargs;cases h
   ·rename_i x y hc hargs;cases h
   ·rename_i x y z hc hargs
    obtain⟨s,hs,rfl⟩:=bO h;cases hs
   ·cases h
 ·exact oP h
set_option maxRecDepth 100000
def Ay:List U->List U->Bool
 |[],[]=>true
 |a::s,b::t=>
  match a,b with
  | .s x,.s y=>(match eqS x y with|true=>Ay s t|false=>false)
  | .agg x,.agg y=>(match eqL x y with|true=>Ay s t|false=>false)
  |_,_=>false
 |_,_=>false
theorem pb:∀ {a b:List U},Ay a b=true->a=b
 |[],[],_=>rfl
 |a::s,b::t,h=>by
  cases a<;>cases b<;>simp only[Ay,Bool.false_eq_true] at h
  ·split at h
   ·rename_i e;rw[tj e,pb h]
   ·cases h
  ·split at h
   ·rename_i e;rw[pc e,pb h]
   ·cases h
 |[],_::_,h=>by cases h
 |_::_,[],h=>by cases h
def eqV (a b:V):Bool:=
 match a,b with
 | .s x,.s y=>eqS x y
 | .agg x,.agg y=>eqL x y
 | .tup x,.tup y=>Ay x y
 |_,_=>false
theorem FH {a b:V} (h:eqV a b=true):a=b:=by
 unfold eqV at h;split at h
 ·rw[tj h]
 ·rw[pc h]
 ·rw[pb h]
 ·cases h
abbrev Bs:=List (Nat×Bl)
def toW:Bs->Hp
 |[]=>[]
 |(i,b)::t=>(i,some b)::toW t
def tOf (hs:Bs):T Bl:=lj (toW hs) .nil id
def rX (h:T Bl):Bs->Bool
 |[]=>true
 |(i,b)::t=>match eqO (h.get i) (some b) with|true=>rX h t|false=>false
theorem rW {h:T Bl}:∀ {hs:Bs},rX h hs=true->∀ i c,(i,c)∈toW hs->h.get i=c
 |(j,b)::t,hh,i,c,hm=>by
  simp only[rX] at hh;split at hh
  ·rename_i e
   simp only[toW,List.mem_cons,Prod.mk.injEq] at hm
   rcases hm with ⟨rfl,rfl⟩|hm
   ·exact Az e
   ·exact rW hh i c hm
  ·cases hh
def GW (r:KC) (v:V) (n':Nat) (hs:Bs):Bool:=match r with| .ok v' m h=>eqV v' v&&Nat.beq m n'&&rX h hs| .bad _ _=>false
theorem SC.sub {P:Program} {f:FuncId} {args:List V} {n:Nat} {L:Hp} {v:V} {n':Nat} {L' M:Hp} (h:SC P f args n L v n' L') (hs:Sub M L'):SC P f args n L v n' M:=by
 intro φ xs w h1 h2 h3;refine Calls.mono (h φ xs w h1 h2 h3) ?_;rintro e w' ⟨φ',x,rfl,hv,hg,hn,st,r⟩;exact⟨φ',x,rfl,hv,hg.sub hs,hn,⟨st.os,st.tape,st.output,st.size,st.keep,fun j bl b hj=>st.fresh j bl b (hs j bl hj),st.zle,st.zfr⟩,r⟩
theorem Fq (hs:Bs):HV (puts [] (toW hs)) (tOf hs):=by
 unfold tOf;rw[iD];exact HV.puts (h:=.nil) (L:=[]) (toW hs) (fun i=>by rw[T.get_nil];rfl)
theorem B2 {hs:Bs} {h:T Bl} {L:Hp} (hv:HV L h) (ha:rX h hs=true):Sub (puts [] (toW hs)) L:=by
 intro i bl hi
 have hk:i∈az (toW hs):=by
  by_cases hk:i∈az (toW hs)
  ·exact hk
  ·rw[aN _ _ _ hk] at hi;simp[lk] at hi
 obtain⟨c,hc,he⟩:=dz (toW hs) [] i hk;rw[he] at hi;subst hi;rw[hv i];exact rW ha i _ hc
abbrev sn (P:Program) (ov:FuncId->List V->Nat->T Bl->Option KC):Prop:=∀ f args n h r,ov f args n h=some r->∀ v n' h',r=.ok v n' h'->∀ L,HV L h->OH n L->OE n args->∃ L',HV L' h'/\OH n' L'/\okV n' v=true/\n<=n'/\CallOK P f args n L v n' L'
def EY (a b:FuncId->List V->Nat->T Bl->Option KC) (f:FuncId) (args:List V) (n:Nat) (h:T Bl):Option KC:=match a f args n h with|some r=>some r|none=>b f args n h
theorem Cy {P:Program} {a b:FuncId->List V->Nat->T Bl->Option KC} (ha:sn P a) (hb:sn P b):sn P (EY a b):=by
 intro f args n h r hr;unfold EY at hr;split at hr
 ·rename_i r' hr';cases hr;exact ha f args n h _ hr'
 ·exact hb f args n h r hr
end Ab
end Go.Proofs.YtegjgpldfgjoiaaGreatDoor
