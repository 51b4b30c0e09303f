import Derived.Test.YtegjgpldfgjoiaaGreatDoorCnB03
set_option linter.unusedSimpArgs false
set_option linter.unusedVariables false
namespace Go.Proofs.YtegjgpldfgjoiaaGreatDoor
namespace Ab
open Go
def rv {α β:Type}:List α->List α->(List α->β)->β
 |[],out,k=>k out
 |x::t,out,k=>rv t (x::out) k
def frc {α β:Type}:List α->List α->(List α->β)->β
 |[],acc,k=>rv acc [] k
 |x::t,acc,k=>frc t (x::acc) k
theorem um {α β:Type} (k:List α->β):∀ (l out:List α),rv l out k=k (l.reverse++out)
 |[],_=>rfl
 |x::t,out=>by simp only[rv];rw[um k t];simp
theorem uW {α β:Type} (k:List α->β):∀ (l acc:List α),frc l acc k=k (acc.reverse++l)
 |[],acc=>by simp only[frc];rw[um]
 |x::t,acc=>by simp only[frc];rw[uW k t];simp
theorem aQ {α β:Type} (k:List α->β) (l:List α):frc l [] k=k l:=by rw[uW];rfl
def iX {β:Type} (v:V) (k:V->β):β:=
 match v with
 | .any=>k .any
 | .undef=>k .undef
 | .s x=>k (.s x)
 | .agg l=>frc l [] fun l=>k (.agg l)
 | .tup l=>frc l [] fun l=>k (.tup l)
 | .w i g sz j m=>k (.w i g sz j m)
theorem dd {β:Type} (v:V) (k:V->β):iX v k=k v:=by cases v<;>simp only[iX,aQ]
def lt (n:Nat) (v:V) (ans:List Ans) (C:Prop):Option Out:=iX v fun v=>some ⟨⟨[],v,[],n⟩,ans,C⟩
theorem cn (n:Nat) (v:V) (ans:List Ans) (C:Prop):lt n v ans C=some ⟨⟨[],v,[],n⟩,ans,C⟩:=dd _ _
def f_ (n:Nat) (x:SO):Option Out:=match x with|some (s,as_,C)=>some ⟨⟨[],.s s,[],n⟩,as_,C⟩|none=>none
def OutOK (P:Program) (o:Oper) (env:List V) (n:Nat) (L:Hp) (out:Out):Prop:=
 OpL P o env n (res out.r.foot L) out.r.v out.r.n' (puts (res out.r.foot L) out.r.wr)/\n<=out.r.n'
theorem ez {P:Program} {o:Oper} {env:List V} {n:Nat} {L:Hp} {v:V} {ans:List Ans} {C:Prop} {out:Out} (h:lt n v ans C=some out)
 (hy:∀ φ (a:Act) (w:World),(∀ x∈o.op.operands,Vr φ (ev env x) (a.eval x))->∃ y,(execOp a.eval o).run P w=.ok (.value y) w/\Vr φ v y):OutOK P o env n L out:=by
 rw[cn] at h;cases h;exact⟨OpL.light fun φ a w hx _=>hy φ a w hx,Nat.le_refl _⟩
theorem gJ {P:Program} {o:Oper} {env:List V} {n:Nat} {L:Hp} {so:SO} {out:Out} (h:f_ n so=some out) (hC:out.C)
 (hy:∀ s as_ C,so=some (s,as_,C)->C->∀ φ (a:Act) (w:World),(∀ x∈o.op.operands,Vr φ (ev env x) (a.eval x))->∃ y,(execOp a.eval o).run P w=.ok (.value y) w/\Sr φ s y):OutOK P o env n L out:=by
 unfold f_ at h;split at h
 ·rename_i s as_ C
  cases h;exact⟨OpL.light fun φ a w hx _=>hy s as_ C rfl hC φ a w hx,Nat.le_refl _⟩
 ·cases h
def dv (o k:Nat):Nat:=match o with|0=>k|o+1=>match k with|0=>o+1|k=>o+1+k
theorem aV (o k:Nat):dv o k=o+k:=by unfold dv;cases o<;>cases k<;>simp
def cj (k s:Nat):Nat:=match s with|1=>k|s=>k*s
theorem aX (k s:Nat):cj k s=k*s:=by unfold cj;split<;>simp
def fI (z:Int) (len:Nat):List Ans->Nat×List Ans×Prop
 | .idx k::as_=>(k,as_,z=(k:Int)/\k<len)
 |as_=>(z.toNat,as_,0<=z/\z<(len:Int))
theorem lN {z:Int} {len:Nat} {ans:List Ans} {k:Nat} {as_:List Ans} {C:Prop} (h:fI z len ans=(k,as_,C)) (hC:C):0<=z/\z<(len:Int)/\z.toNat=k:=by
 unfold fI at h
 split at h<;>simp only[Prod.mk.injEq] at h<;>obtain⟨rfl,rfl,rfl⟩:=h
 ·obtain⟨rfl,h2⟩:=hC;exact⟨by omega,by omega,by omega⟩
 ·exact⟨hC.1,hC.2,rfl⟩
def gu (P:Program) (s:TypeId) (f:Nat):Option Nat:=
 match P.underlying s with
 |some (.struct fs)=>
  match fs[f]? with
  |some fd=>
   match P.info? fd.type with
   |some i=>match i.size with|0=>none|_+1=>some fd.offset
   |none=>none
  |none=>none
 |_=>none
theorem gt {P:Program} {s:TypeId} {f off:Nat} (h:gu P s f=some off) (b o:Nat) (w:World):(Instr.fieldAt s (.pointer (some ⟨b,o,none⟩)) f).run P w=.ok (.pointer (some ⟨b,o+off,none⟩)) w:=by
 unfold gu at h;split at h
 ·rename_i fs hty
  split at h
  ·rename_i fd hfd
   split at h
   ·rename_i i hi
    split at h
    ·cases h
    ·rename_i k hk
     cases h
     have hs:(sizeOf fd.type).run P w=.ok (k+1) w:=by simp[sizeOf,typeInfo,hi,hk]
     simp only[Instr.fieldAt,Sem.run_bind,run_underlying hty,Result.andThen_ok,hfd,Instr.sureAddr,Sem.run_pure,fieldPlace,hs,aA];simp
   ·cases h
  ·cases h
 ·cases h
def eo (P:Program) (n:Nat) (s:TypeId) (x:V) (f:Nat) (ans:List Ans):Option Out:=
 match x with
 | .s (.ptr (some (i,o)))=>match gu P s f with|some off=>lt n (.s (.ptr (some (i,dv o off)))) ans True|none=>none
 |_=>none
def aF (P:Program) (e:TypeId):Option Nat:=match P.info? e with|some i=>some i.size|none=>none
theorem ao {P:Program} {e:TypeId} {sz:Nat} (h:aF P e=some sz) (w:World):(sizeOf e).run P w=.ok sz w:=by
 unfold aF at h;split at h
 ·rename_i i hi;cases h;simp[sizeOf,typeInfo,hi]
 ·cases h
def cy (P:Program) (n:Nat) (t:TypeId) (x ix:V) (ans:List Ans):Option Out:=
 match ix with
 | .s (.int _ z)=>
   match P.underlying t with
   |some (.slice e)=>
    match x,aF P e with
    | .s (.slc (some (i,o)) len _),some sz=>match fI z len ans with|(k,as_,C)=>lt n (.s (.ptr (some (i,dv o (cj k sz))))) as_ C
    |_,_=>none
   |some (.array len e)=>
    match x,aF P e with
    | .s (.ptr (some (i,o))),some sz=>match fI z len ans with|(k,as_,C)=>lt n (.s (.ptr (some (i,dv o (cj k sz))))) as_ C
    |_,_=>none
   |_=>none
 |_=>none
def mp (P:Program) (n:Nat) (t:TypeId) (x ix:V) (ans:List Ans):Option Out:=
 match ix with
 | .s (.int _ z)=>
   match P.underlying t with
   |some .string=>
    match x with
    | .s (.str l)=>match fI z l.length ans with|(k,as_,C)=>lt n (.s (.int .u8 ((l.getD k 0).toNat:Int))) as_ C
    |_=>none
   |_=>none
 |_=>none
theorem mL {P:Program} {env:List V} {n:Nat} {L:Hp} {t:TypeId} {x ix:Operand} {ans:List Ans} {out:Out} {o:Oper} (ho:o.op=.indexAddr t x ix)
 (h:cy P n t (ev env x) (ev env ix) ans=some out) (hC:out.C):OutOK P o env n L out:=by
 unfold cy at h;split at h
 ·rename_i ki z hix
  split at h
  ·rename_i e hty
   split at h
   ·rename_i i off len c sz hx hsz
    rcases hq:fI z len ans with ⟨k,as_,C⟩
    rw[hq] at h;dsimp only at h
    have hC':C:=by rw[cn] at h;cases h;exact hC
    obtain⟨h1,h2,h3⟩:=lN hq hC'
    refine ez h fun φ a w hop=>?_
    have g1:=hop x (by simp[ho,Op.operands]);have g2:=hop ix (by simp[ho,Op.operands]);rw[hx] at g1;rw[hix] at g2;obtain⟨b,cp,hb,hv,_⟩:=g1;simp only[Vr,Sr] at g2;refine⟨.pointer (some ⟨b.1,dv off (cj k sz)+b.2,none⟩),?_,b,hb,rfl⟩;simp only[execOp,ho,hv,g2,Instr.indexAt,asIntOf,Sem.run_bind,Sem.run_pure,run_underlying hty,Result.andThen_ok,ao hsz,aA,aV,aX,h3];rw[if_pos ⟨h1,h2⟩];simp[ao hsz,aA,h3]
   ·cases h
  ·rename_i len e hty
   split at h
   ·rename_i i off sz hx hsz
    rcases hq:fI z len ans with ⟨k,as_,C⟩
    rw[hq] at h;dsimp only at h
    have hC':C:=by rw[cn] at h;cases h;exact hC
    obtain⟨h1,h2,h3⟩:=lN hq hC'
    refine ez h fun φ a w hop=>?_
    have g1:=hop x (by simp[ho,Op.operands]);have g2:=hop ix (by simp[ho,Op.operands]);rw[hx] at g1;rw[hix] at g2;obtain⟨b,hb,hv⟩:=g1;simp only[Vr,Sr] at g2;refine⟨.pointer (some ⟨b.1,dv off (cj k sz)+b.2,none⟩),?_,b,hb,rfl⟩;simp only[execOp,ho,hv,g2,Instr.indexAt,Instr.sureAddr,asIntOf,Sem.run_bind,Sem.run_pure,run_underlying hty,Result.andThen_ok,ao hsz,aA,aV,aX,h3];rw[if_pos ⟨h1,h2⟩];simp[ao hsz,aA,h3]
   ·cases h
  ·cases h
 ·cases h
theorem xh {P:Program} {env:List V} {n:Nat} {L:Hp} {t:TypeId} {x ix:Operand} {ans:List Ans} {out:Out} {o:Oper} (ho:o.op=.index t x ix)
 (h:mp P n t (ev env x) (ev env ix) ans=some out) (hC:out.C):OutOK P o env n L out:=by
 unfold mp at h;split at h
 ·rename_i ki z hix
  split at h
  ·rename_i hty
   split at h
   ·rename_i l hx
    rcases hq:fI z l.length ans with ⟨k,as_,C⟩
    rw[hq] at h;dsimp only at h
    have hC':C:=by rw[cn] at h;cases h;exact hC
    obtain⟨h1,h2,h3⟩:=lN hq hC'
    refine ez h fun φ a w hop=>?_
    have g1:=hop x (by simp[ho,Op.operands]);have g2:=hop ix (by simp[ho,Op.operands]);rw[hx] at g1;rw[hix] at g2;simp only[Vr,Sr] at g1 g2;refine⟨_,?_,rfl⟩
    have hk:k<l.length:=by omega
    have he:(⟨l.toArray⟩:ByteArray)[k]? =some l[k]:=by
     have hk':k<(⟨l.toArray⟩:ByteArray).size:=hk;rw[getElem?_pos _ k hk'];rfl
    simp only[execOp,ho,g1,g2,Instr.index,asIntOf,Sem.run_bind,Sem.run_pure,run_underlying hty,Result.andThen_ok,h3,if_pos h1,he];simp[hk]
   ·cases h
  ·cases h
 ·cases h
theorem xi {P:Program} {env:List V} {n:Nat} {L:Hp} {s:TypeId} {x:Operand} {f:Nat} {ans:List Ans} {out:Out} {o:Oper} (ho:o.op=.fieldAddr s x f)
 (h:eo P n s (ev env x) f ans=some out):OutOK P o env n L out:=by
 unfold eo at h;split at h
 ·rename_i i off hx
  split at h
  ·rename_i d hd
   refine ez h fun φ a w hop=>?_
   have g1:=hop x (by simp[ho,Op.operands]);rw[hx] at g1;obtain⟨b,hb,hv⟩:=g1;refine⟨.pointer (some ⟨b.1,dv off d+b.2,none⟩),?_,b,hb,rfl⟩;simp only[execOp,ho,hv,Sem.run_bind,gt hd,Result.andThen_ok,Sem.run_pure,aV,Nat.add_right_comm]
  ·cases h
 ·cases h
def vC (P:Program) (n:Nat) (L:Hp) (t:TypeId) (x:V) (ans:List Ans):Option Out:=
 match x with
 | .s (.ptr (some (i,o)))=>
   match lk L i,tyS P t with
   |some bl,some (ag,sz)=>
    match bl.sym with
    |false=>
     match ans with
     | .ldv v::as_=>some ⟨⟨[i],v,[],n⟩,as_,gi ag sz bl o=some v⟩
     |ans=>match gi ag sz bl o with|some v=>iX v fun v=>some ⟨⟨[i],v,[],n⟩,ans,True⟩|none=>none
    |true=>match ans with| .val v::as_=>some ⟨⟨[i],v,[],n⟩,as_,gi ag sz bl o=some v⟩|_=>none
   |_,_=>none
 |_=>none
theorem Bx {P:Program} {env:List V} {n:Nat} {L:Hp} {t:TypeId} {x:Operand} {ans:List Ans} {out:Out} {o:Oper} (ho:o.op=.load t x)
 (h:vC P n L t (ev env x) ans=some out) (hC:out.C):OutOK P o env n L out:=by
 have key:∀ (i off:Nat) (bl:Bl) (ag:Bool) (sz:Nat) (v:V),ev env x=.s (.ptr (some (i,off)))->lk L i=some bl->tyS P t=some (ag,sz)->gi ag sz bl off=some v->OpL P o env n (res [i] L) v n (res [i] L):=by
  intro i off bl ag sz v hx hl ht hld
  refine OpL.light fun φ a w hop hg=>?_
  have g1:=hop x (by simp[ho,Op.operands]);rw[hx] at g1;obtain⟨b,hb,hv⟩:=g1;obtain⟨b',hb',hat⟩:=hg.hr i bl (by rw[aE];simp[hl]);rw[hb] at hb';cases hb';obtain⟨y,hy,hr⟩:=fU hat ht hld;exact⟨y,by simp only[execOp,ho,hv,Instr.loadAt,Instr.sureAddr,Sem.run_bind,Sem.run_pure,Result.andThen_ok,hy],hr⟩
 unfold vC at h;split at h
 ·rename_i i off hx
  split at h
  ·rename_i bl ag sz hl ht
   split at h
   ·split at h
    ·rename_i v as_
     cases h;exact⟨key i off bl ag sz v hx hl ht hC,Nat.le_refl _⟩
    ·split at h
     ·rename_i v hld
      rw[dd] at h;cases h;exact⟨key i off bl ag sz v hx hl ht hld,Nat.le_refl _⟩
     ·cases h
   ·split at h
    ·rename_i v as_
     cases h;exact⟨key i off bl ag sz v hx hl ht hC,Nat.le_refl _⟩
    ·cases h
  ·cases h
 ·cases h
def dL (P:Program) (n:Nat) (L:Hp) (t:TypeId) (x v:V) (ans:List Ans):Option Out:=
 match x with
 | .s (.ptr (some (i,o)))=>
   match lk L i,aF P t,cellsOf v with
   |some bl,some sz,some l=>
    match Nat.beq l.length sz&& !bl.ro&&aR bl l&&bl.kind.isNone with
    |true=>
     match bl.sym with
     |false=>
      match ans with
      | .stc cs::as_=>some ⟨⟨[i],.undef,[(i,some {bl with cells:=cs})],n⟩,as_,o+l.length<=bl.cells.length/\cs=aU bl.cells o l⟩
      |ans=>match Nat.ble (o+l.length) bl.cells.length with|true=>frc (aU bl.cells o l) [] fun cs=>some ⟨⟨[i],.undef,[(i,some {bl with cells:=cs})],n⟩,ans,True⟩|false=>none
     |true=>match ans with| .cells cs::as_=>some ⟨⟨[i],.undef,[(i,some {bl with cells:=cs})],n⟩,as_,o+l.length<=bl.cells.length/\cs=aU bl.cells o l⟩|_=>none
    |false=>none
   |_,_,_=>none
 |_=>none
theorem gR {P:Program} {env:List V} {n:Nat} {L:Hp} {t:TypeId} {x y:Operand} {ans:List Ans} {out:Out} {o:Oper} (ho:o.op=.store t x y)
 (h:dL P n L t (ev env x) (ev env y) ans=some out) (hC:out.C):OutOK P o env n L out:=by
 have key:∀ (i off:Nat) (bl:Bl) (sz:Nat) (l cs:List S),ev env x=.s (.ptr (some (i,off)))->lk L i=some bl->aF P t=some sz->cellsOf (ev env y)=some l->
  (Nat.beq l.length sz&& !bl.ro&&aR bl l&&bl.kind.isNone)=true->off+l.length<=bl.cells.length->cs=aU bl.cells off l->
  OpL P o env n (res [i] L) .undef n (puts (res [i] L) [(i,some {bl with cells:=cs})]):=by
  intro i off bl sz l cs hx hl ht hcl hchk hle hcs φ a w Q hop hg hf;simp only[Bool.and_eq_true,Bool.not_eq_true'] at hchk;obtain⟨⟨⟨hsz,hro⟩,hfit⟩,hkd⟩:=hchk
  have hkd:bl.kind=none:=by simpa using hkd
  have hsz:=Nat.eq_of_beq_eq_true hsz;have g1:=hop x (by simp[ho,Op.operands]);have g2:=hop y (by simp[ho,Op.operands]);rw[hx] at g1;obtain⟨b,hb,hv⟩:=g1;have hall:=jN hcl g2
  have e1:res [i] L=[(i,some bl)]:=by simp[res,hl]
  have e2:puts (res [i] L) [(i,some {bl with cells:=cs})]=[(i,some {bl with cells:=cs})]:=by rw[e1];simp[puts,put]
  rw[e2];rw[e1] at hg |-;obtain⟨b',hb',pre,xs,rest,fr,k1,hp,k2,k3,k4,k5⟩:=hg.hr i bl (by simp[lk]);rw[hkd] at k1;simp only[bC] at k1;rw[hb] at hb';cases hb';have hvl:=hall.len
  obtain⟨w',hr,q1,q2,q3,q4,q5,q6⟩:=cJ (P:=P) (b:=b.1) (o:=off+b.2) (a.eval y).cells.toList 0 w (pre++(xs++rest)) k1
   (fun z hz=>by
     obtain⟨j,hj,hz⟩:=List.getElem_of_mem hz;obtain⟨s,hsm,hs⟩:=hall.get' (i:=j) (b:=z) (by rw[<-hz];simp[hj])
     exact hs.cell (jE hfit hsm))
   (by have:=k2.len;simp only[List.length_append];omega) (k4 hro)
  have hrun:(execOp a.eval o).run P w=.ok .skip w':=by
   have hs:=ao ht w
   have: ¬((a.eval y).cells.size≠sz):=by rw[<-Array.length_toList];omega
   simp only[execOp,ho,hv,Instr.storeAt,Instr.sureAddr,storeVar,Sem.run_bind,Sem.run_pure,Result.andThen_ok,hs,if_neg this,hr]
  unfold Oper.wp;rw[hrun,Oper.upon_skip];obtain⟨good,stp⟩:=kZ (w':=w') (cs':=cs) hkd hg hb hro hfit hall hle hcs ⟨pre,xs,rest,fr,k1,hp,k2,k3,k4 hro,k5,by simpa using q5⟩ q1 q2 q3 q4 q6;exact⟨φ,Go.undef,rfl,rfl,good,stp,fun _ _=>rfl⟩
 unfold dL at h;split at h
 ·rename_i i off hx
  split at h
  ·rename_i bl sz l hl ht hcl
   split at h
   ·rename_i hchk
    split at h
    ·split at h
     ·rename_i cs as_
      cases h;exact⟨key i off bl sz l cs hx hl ht hcl hchk hC.1 hC.2,Nat.le_refl _⟩
     ·split at h
      ·rename_i hle
       rw[aQ] at h;cases h;exact⟨key i off bl sz l _ hx hl ht hcl hchk (Nat.le_of_ble_eq_true hle) rfl,Nat.le_refl _⟩
      ·cases h
    ·split at h
     ·rename_i cs as_
      cases h;exact⟨key i off bl sz l cs hx hl ht hcl hchk hC.1 hC.2,Nat.le_refl _⟩
     ·cases h
   ·cases h
  ·cases h
 ·cases h
theorem vB {P:Program} {o:Oper} {env:List V} {n:Nat} {L:Hp} {ty:TypeId} {l:List S} {ans:List Ans}
 (h:∀ φ (a:Act) (w:World),(∀ x∈o.op.operands,Vr φ (ev env x) (a.eval x))->∃ xs:List Value,(execOp a.eval o).run P w=.ok (.value (.pointer (some ⟨w.heap.size,0,none⟩))) {w with heap:=w.heap.push (.cells xs.toArray ty)}/\All2 (Sr φ) l xs):
 OutOK P o env n L (xf n ty l ans):=by
 refine⟨?_,Nat.le_succ _⟩
 have e:puts (res (xf n ty l ans).r.foot L) (xf n ty l ans).r.wr=put [] n (some {cells:=l,ty}):=by simp[xf,res,puts]
 rw[e]
 refine OpL.fresh (L:=[]) (by simp[lk]) fun φ a w hop _=>?_
 obtain⟨xs,hr,hall⟩:=h φ a w hop;exact⟨_,_,hr,rfl,rfl,rfl,⟨_,rfl⟩,rQ rfl hall,fun φ' hn _=>⟨_,hn,rfl⟩⟩
def iw (P:Program) (n:Nat) (t:TypeId) (ans:List Ans):Option Out:=match cx P t with|some l=>frc l [] fun l=>some (xf n t l ans)|none=>none
theorem xo {P:Program} {env:List V} {n:Nat} {L:Hp} {t:TypeId} {ans:List Ans} {out:Out} {o:Oper} (ho:o.op=.alloc t) (h:iw P n t ans=some out):OutOK P o env n L out:=by
 unfold iw at h;split at h
 ·rename_i l hz
  rw[aQ] at h;cases h
  refine vB fun φ a w hop=>?_
  obtain⟨z,hr,hall⟩:=dV hz w;exact⟨z.cells.toList,by simp[execOp,ho,Instr.alloc,hr,newVar,newRow],hall φ⟩
 ·cases h
def tU (n:Nat) (t:TypeId) (v:V) (ans:List Ans):Option Out:=match cellsOf v with|some l=>frc l [] fun l=>some (xf n t l ans)|none=>none
theorem DK {P:Program} {env:List V} {n:Nat} {L:Hp} {t:TypeId} {x:Operand} {ans:List Ans} {out:Out} {o:Oper} (ho:o.op=.box t x) (h:tU n t (ev env x) ans=some out):OutOK P o env n L out:=by
 unfold tU at h;split at h
 ·rename_i l hz
  rw[aQ] at h;cases h
  refine vB fun φ a w hop=>?_
  exact⟨(a.eval x).cells.toList,by simp[execOp,ho,Instr.box,newVar,newRow],jN hz (hop x (by simp[ho,Op.operands]))⟩
 ·cases h
def rep (k:Nat) (zs:List S):List S:=match zs with|[z]=>List.replicate k z|zs=>(List.range (k*zs.length)).map fun i=>zs.getD (i%zs.length) .unk
theorem fj (k:Nat) (zs:List S):(rep k zs).length=k*zs.length:=by unfold rep;split<;>simp
theorem uq (k:Nat) (zs:List S) (i:Nat) (h:i<k*zs.length):(rep k zs)[i]? =zs[i%zs.length]? :=by
 have hpos:0<zs.length:=by rcases Nat.eq_zero_or_pos zs.length with e|e;·rw[e] at h;omega
                           ·exact e
 have hm:=Nat.mod_lt i hpos;unfold rep;split
 ·simp at h |-;rw[List.getElem?_replicate,if_pos h];simp[Nat.mod_one]
 ·rw[List.getElem?_map,List.getElem?_range h];simp[List.getD_eq_getElem?_getD,hm]
theorem dZ {β:Type} (f:Nat->β):Array.map f (Array.range 0)= #[]:=by
 apply Array.eq_empty_of_size_eq_zero;simp
theorem ya {φ:Ph} {zs:List S} {zc:List Value} (hz:All2 (Sr φ) zs zc) (k:Nat):All2 (Sr φ) (rep k zs) ((Array.range (k*zc.length)).map (fun i=>zc.toArray[i%zc.toArray.size]!)).toList:=by
 have hl:=hz.len
 refine All2.of_get (by rw[fj];simp[hl]) fun i a b ha hb=>?_
 have hi:i<k*zs.length:=by
  rcases Nat.lt_or_ge i (rep k zs).length with h|h
  ·rwa [fj] at h
  ·simp[List.getElem?_eq_none h] at ha
 rw[uq k zs i hi] at ha;obtain⟨c,hc,hr⟩:=hz.get ha
 have hi':i<k*zc.length:=by rw[hl];exact hi
 simp only[Array.toList_map,Array.toList_range,List.getElem?_map,List.getElem?_range hi',Option.map_some,Option.some.injEq] at hb;subst hb
 have:i%zs.length<zc.length:=by
  rcases Nat.lt_or_ge (i%zs.length) zc.length with h|h
  ·exact h
  ·simp[List.getElem?_eq_none h] at hc
 have e:zc.toArray[i%zc.toArray.size]! =c:=by
  have hs:zc.toArray.size=zs.length:=by simp[hl]
  rw[hs,getElem!_pos _ _ (by simpa using this)]
  simpa [this] using hc
 rw[e];exact hr
def sb (P:Program) (n:Nat) (t:TypeId) (l c:V) (ans:List Ans):Option Out:=
 match P.underlying t,l,c with
 |some (.slice e),.s (.int _ zl),.s (.int _ zc)=>
  match P.info? e,cx P e with
  |some inf,some zs=>
   match Nat.beq inf.size zs.length with
   |true=>
    match ans with
    | .idx kl::.idx kc::as_=>some ⟨⟨[],.s (.slc (some (n,0)) kl (some kc)),[(n,some {cells:=rep kc zs,ty:=e,sym:=true,flat:=zs.all bD})],n+1⟩,as_,zl=(kl:Int)/\zc=(kc:Int)/\kl<=kc/\inf.bytes*kc<=281474976710656/\kc<=281474976710656⟩
    | .mk kl::.mk kc::as_=>frc (rep kc zs) [] fun cs=>some ⟨⟨[],.s (.slc (some (n,0)) kl (some kc)),[(n,some {cells:=cs,ty:=e})],n+1⟩,as_,zl=(kl:Int)/\zc=(kc:Int)/\kl<=kc/\inf.bytes*kc<=281474976710656/\kc<=281474976710656⟩
    |_=>none
   |false=>none
  |_,_=>none
 |_,_,_=>none
theorem pW {P:Program} {w:World} {t e:TypeId} {inf:TypeInfo} {zs:List S} (hty:P.underlying t=some (.slice e)) (hi:P.info? e=some inf) (hz:cx P e=some zs) (hsz:inf.size=zs.length) {k1 k2:IntKind} {kl kc:Nat} (hle:kl<=kc) (hb:inf.bytes*kc<=281474976710656) (hk:kc<=281474976710656):
 ∃ xs:List Value,(Instr.makeSlice t (.int k1 (kl:Int)) (.int k2 (kc:Int))).run P w=.ok (.slice (some ⟨w.heap.size,0,none⟩) kl kc) {w with heap:=w.heap.push (.cells xs.toArray e)}/\∀ φ,All2 (Sr φ) (rep kc zs) xs:=by
 obtain⟨z,hzr,hall⟩:=dV hz w
 have hlen:z.cells.size=zs.length:=by rw[<-Array.length_toList];exact (hall ⟨fun _=>none,fun _=>none⟩).len
 have w1:IntKind.i64.wrap (kl:Int)=kl:=aa (by omega) (by omega);have w2:IntKind.i64.wrap (kc:Int)=kc:=aa (by omega) (by omega);refine⟨((Array.range (kc*z.cells.toList.length)).map (fun i=>z.cells.toList.toArray[i%z.cells.toList.toArray.size]!)).toList,?_,fun φ=>ya (hall φ) kc⟩
 have hs:(sizeOf e).run P w=.ok inf.size w:=by simp[sizeOf,typeInfo,hi]
 have ht:(typeInfo e).run P w=.ok inf w:=by simp[typeInfo,hi]
 have c1:((decide ((kc:Int)<0)||decide ((inf.bytes:Int)*(kc:Int)>2^48))||decide ((kl:Int)<0)||decide ((kl:Int)>(kc:Int)))=false:=by
  have h3:(inf.bytes:Int)*(kc:Int)<=281474976710656:=by rw[<-Int.natCast_mul];omega
  have e48:(2:Int)^48=281474976710656:=by decide
  rw[e48];rw[Bool.eq_false_iff];intro h;simp only[Bool.or_eq_true,decide_eq_true_eq] at h;omega
 unfold Instr.makeSlice;simp only[Sem.run_bind,run_underlying hty,Result.andThen_ok,asInt,asIntOf,Sem.run_pure,ht,w1,w2];simp only[c1,Bool.false_eq_true,if_false,Sem.run_pure,Result.andThen_ok,run_askRoom,hs,Int.toNat_natCast,Sem.run_bind]
 have hls:z.cells.toList.length=inf.size:=by rw[Array.length_toList,hlen,hsz]
 by_cases h0:kc*inf.size=0
 ·rw[if_pos h0]
  simp only[Sem.run_pure,Result.andThen_ok,newRow,Sem.run_bind,run_newObj,hls];simp[h0,dZ]
 ·rw[if_neg h0]
  simp only[Sem.run_bind,hzr,Sem.run_pure,Result.andThen_ok,newRow,run_newObj,hls]
theorem Bw {P:Program} {env:List V} {n:Nat} {L:Hp} {t:TypeId} {x y:Operand} {ans:List Ans} {out:Out} {o:Oper} (ho:o.op=.makeSlice t x y)
 (h:sb P n t (ev env x) (ev env y) ans=some out) (hC:out.C):OutOK P o env n L out:=by
 unfold sb at h;split at h
 ·rename_i e k1 zl k2 zc hty hx hy
  split at h
  ·rename_i inf zs hi hz
   split at h
   ·rename_i hsz
    have hsz:=Nat.eq_of_beq_eq_true hsz;split at h
    ·rename_i kl kc as_
     cases h;obtain⟨rfl,rfl,h3,h4,h5⟩:=hC;refine⟨?_,Nat.le_succ _⟩
     refine OpL.fresh (L:=[]) (bl:={cells:=rep kc zs,ty:=e,sym:=true,flat:=zs.all bD}) (by simp[lk]) fun φ a w hop _=>?_
     have g1:=hop x (by simp[ho,Op.operands]);have g2:=hop y (by simp[ho,Op.operands]);rw[hx] at g1;rw[hy] at g2;simp only[Vr,Sr] at g1 g2;obtain⟨xs,hr,hall⟩:=pW (w:=w) hty hi hz hsz (k1:=k1) (k2:=k2) h3 h4 h5;refine⟨.slice (some ⟨w.heap.size,0,none⟩) kl kc,{w with heap:=w.heap.push (.cells xs.toArray e)},by simp only[execOp,ho,g1,g2];rw[Sem.run_bind,hr];rfl,rfl,rfl,rfl,⟨_,rfl⟩,⟨[],xs,[],(0,0),by simp[bC],rfl,hall _,fun _=>rfl,fun _ _ _=>by simp,⟨fun _ _ e=>(by cases e),fun _ e=>(by cases e)⟩⟩,fun φ' hn _=>⟨_,kc,hn,rfl,h3,.inr rfl⟩⟩
    ·rename_i kl kc as_
     rw[aQ] at h;cases h;obtain⟨rfl,rfl,h3,h4,h5⟩:=hC;refine⟨?_,Nat.le_succ _⟩
     refine OpL.fresh (L:=[]) (bl:={cells:=rep kc zs,ty:=e}) (by simp[lk]) fun φ a w hop _=>?_
     have g1:=hop x (by simp[ho,Op.operands]);have g2:=hop y (by simp[ho,Op.operands]);rw[hx] at g1;rw[hy] at g2;simp only[Vr,Sr] at g1 g2;obtain⟨xs,hr,hall⟩:=pW (w:=w) hty hi hz hsz (k1:=k1) (k2:=k2) h3 h4 h5;refine⟨.slice (some ⟨w.heap.size,0,none⟩) kl kc,{w with heap:=w.heap.push (.cells xs.toArray e)},by simp only[execOp,ho,g1,g2];rw[Sem.run_bind,hr];rfl,rfl,rfl,rfl,⟨_,rfl⟩,⟨[],xs,[],(0,0),by simp[bC],rfl,hall _,fun _=>rfl,fun _ _ _=>by simp,⟨fun _ _ e=>(by cases e),fun _ e=>(by cases e)⟩⟩,fun φ' hn _=>⟨_,kc,hn,rfl,h3,.inr rfl⟩⟩
    ·cases h
   ·cases h
  ·cases h
 ·cases h
def lX (place:Nat->Option (Nat×Nat)):List S->List (Nat×V)->Option (List S)
 |cs,[]=>some cs
 |cs,(i,v)::t=>
  match place i,cellsOf v with
  |some (off,sz),some l=>match Nat.beq l.length sz&&Nat.ble (off+l.length) cs.length with|true=>lX place (aU cs off l) t|false=>none
  |_,_=>none
theorem lU {α:Type}:∀ (vs:List α) (arr:List α) (off k:Nat),(vs.zipIdx k).foldl (fun (cs:Array α) (x:α×Nat)=>cs.setIfInBounds (off+x.2) x.1) arr.toArray=(aU arr (off+k) vs).toArray
 |[],_,_,_=>rfl
 |v::t,arr,off,k=>by
  simp only[List.zipIdx_cons,List.foldl_cons,aU];rw[List.setIfInBounds_toArray,lU t,Nat.add_assoc]
theorem kF {φ:Ph} {place:Nat->Option (Nat×Nat)}:∀ {parts:List (Nat×V)} {vals:List (Nat×Value)} {cs:List S} {arr:List Value} {cs':List S},
 All2 (fun (p:Nat×V) (q:Nat×Value)=>p.1=q.1/\Vr φ p.2 q.2) parts vals->All2 (Sr φ) cs arr->lX place cs parts=some cs'->∃ arr',Instr.fill place arr.toArray vals=some arr'.toArray/\All2 (Sr φ) cs' arr'
 |[],[],cs,arr,cs',_,hc,h=>by simp[lX] at h;subst h;exact⟨arr,rfl,hc⟩
 |(i,v)::ps,(j,y)::qs,cs,arr,cs',hp,hc,h=>by
  obtain⟨⟨hij,hv⟩,hp⟩:=hp;simp only at hij hv;subst hij;simp only[lX] at h;split at h
  ·rename_i off sz l hpl hcl
   split at h
   ·rename_i hchk
    simp only[Bool.and_eq_true] at hchk;have e1:=Nat.eq_of_beq_eq_true hchk.1;have e2:=Nat.le_of_ble_eq_true hchk.2;have hall:=jN hcl hv;have hl1:=hall.len;have hl2:=hc.len;obtain⟨arr',hf,ha⟩:=kF (place:=place) hp (sD off hc hall) h;refine⟨arr',?_,ha⟩;simp only[Instr.fill,hpl]
    have hs:y.cells.size=sz:=by rw[<-Array.length_toList];omega
    have: ¬((decide (y.cells.size≠sz)||decide (off+y.cells.size>arr.toArray.size))=true):=by simp;omega
    rw[if_neg (by simpa using this)];have e3:=lU y.cells.toList arr off 0;rw[Nat.add_zero] at e3;rw[<-hf,<-e3];congr 1;rw[<-Array.foldl_toList];simp
   ·cases h
  ·cases h
 |[],_::_,_,_,_,h,_,_=>h.elim
 |_::_,[],_,_,_,h,_,_=>h.elim
def iI (env:List V) (parts:Array (Nat×Operand)):List (Nat×V):=parts.toList.map fun (i,x)=>(i,ev env x)
theorem kA {φ:Ph} {env:List V} {a:Act}:∀ (l:List (Nat×Operand)),(∀ x∈l.map (·.2),Vr φ (ev env x) (a.eval x))->
 All2 (fun (p:Nat×V) (q:Nat×Value)=>p.1=q.1/\Vr φ p.2 q.2) (l.map fun (i,x)=>(i,ev env x)) (l.map fun (i,x)=>(i,a.eval x))
 |[],_=>trivial
 |(i,x)::t,h=>⟨⟨rfl,h x (by simp)⟩,kA t fun y hy=>h y (by simp at hy |-;exact .inr hy)⟩
def fY (P:Program):List Field->Option (List (Nat×Nat))
 |[]=>some []
 |f::t=>match aF P f.type,fY P t with|some sz,some r=>some ((f.offset,sz)::r)|_,_=>none
theorem jX {P:Program} {w:World}:∀ {fs:List Field} {r:List (Nat×Nat)},fY P fs=some r->(fs.mapM fun (f:Field)=>(do pure (f.offset,<-sizeOf f.type):Sem (Nat×Nat))).run P w=.ok r w
 |[],r,h=>by simp[fY] at h;subst h;simp
 |f::t,r,h=>by
  simp only[fY] at h;split at h
  ·rename_i sz r' h1 h2
   cases h;rw[List.mapM_cons];simp only[Sem.run_bind,ao h1,Result.andThen_ok,Sem.run_pure,jX h2]
  ·cases h
def ep (P:Program) (n:Nat) (t:TypeId) (parts:List (Nat×V)) (ans:List Ans):Option Out:=
 match P.underlying t,cx P t with
 |some (.struct fs),some zs=>
  match fY P fs.toList with
  |some pl=>match lX (fun i=>pl[i]?) zs parts with|some cs=>lt n (.agg cs) ans True|none=>none
  |none=>none
 |some (.array _ e),some zs=>
  match aF P e with
  |some sz=>match lX (fun i=>some (i*sz,sz)) zs parts with|some cs=>lt n (.agg cs) ans True|none=>none
  |none=>none
 |_,_=>none
theorem xn {P:Program} {env:List V} {n:Nat} {L:Hp} {t:TypeId} {parts:Array (Nat×Operand)} {ans:List Ans} {out:Out} {o:Oper} (ho:o.op=.build t parts)
 (h:ep P n t (iI env parts) ans=some out):OutOK P o env n L out:=by
 unfold ep at h;split at h
 ·rename_i fs zs hty hz
  split at h
  ·rename_i pl hpl
   split at h
   ·rename_i cs hcs
    refine ez h fun φ a w hop=>?_
    obtain⟨z,hzr,hall⟩:=dV hz w;have hp:=kA (φ:=φ) (env:=env) (a:=a) parts.toList (fun x hx=>hop x (by rw[ho];simp only[Op.operands];simpa using hx));obtain⟨arr',hf,ha⟩:=kF hp (hall φ) hcs;refine⟨.agg arr'.toArray,?_,arr',rfl,ha⟩
    have hm:(Array.mapM (fun (f:Field)=>(do pure (f.offset,<-sizeOf f.type):Sem (Nat×Nat))) fs).run P w=.ok pl.toArray w:=by
     rw[Array.mapM_eq_mapM_toList];simp only[Sem.run_map,jX hpl,Result.andThen_ok]
    have e:(parts.map fun (i,x)=>(i,a.eval x)).toList=parts.toList.map fun (i,x)=>(i,a.eval x):=by simp
    simp only[execOp,ho,Instr.build,Sem.run_bind,hzr,Result.andThen_ok,run_underlying hty,hm,e]
    have e2:(fun (x:Nat)=>pl.toArray[x]?)=(fun (i:Nat)=>pl[i]?):=by funext i;simp
    have e3:z.cells.toList.toArray=z.cells:=by simp
    rw[e3] at hf;simp only[e2,hf,Sem.run_pure,Result.andThen_ok]
   ·cases h
  ·cases h
 ·rename_i len e zs hty hz
  split at h
  ·rename_i sz hsz
   split at h
   ·rename_i cs hcs
    refine ez h fun φ a w hop=>?_
    obtain⟨z,hzr,hall⟩:=dV hz w;have hp:=kA (φ:=φ) (env:=env) (a:=a) parts.toList (fun x hx=>hop x (by rw[ho];simp only[Op.operands];simpa using hx));obtain⟨arr',hf,ha⟩:=kF hp (hall φ) hcs;refine⟨.agg arr'.toArray,?_,arr',rfl,ha⟩
    have e1:(parts.map fun (i,x)=>(i,a.eval x)).toList=parts.toList.map fun (i,x)=>(i,a.eval x):=by simp
    have e3:z.cells.toList.toArray=z.cells:=by simp
    rw[e3] at hf;simp only[execOp,ho,Instr.build,Sem.run_bind,hzr,Result.andThen_ok,run_underlying hty,ao hsz,e1,hf,Sem.run_pure]
   ·cases h
  ·cases h
 ·cases h
def cb (P:Program) (n:Nat) (t:TypeId) (len:Nat) (parts:List (Nat×V)) (ans:List Ans):Option Out:=
 match P.underlying t with
 |some (.slice e)=>
  match aF P e,cx P e with
  |some sz,some zs=>
   match Nat.beq sz zs.length&&Nat.ble (len*sz) 16777216 with
   |true=>
    match lX (fun i=>some (i*sz,sz)) (rep len zs) parts with
    |some cs=>frc cs [] fun cs=>some ⟨⟨[],.s (.slc (some (n,0)) len (some len)),[(n,some {cells:=cs,ty:=e})],n+1⟩,ans,True⟩
    |none=>none
   |false=>none
  |_,_=>none
 |_=>none
theorem mq {P:Program} {env:List V} {n:Nat} {L:Hp} {t:TypeId} {len:Nat} {parts:Array (Nat×Operand)} {ans:List Ans} {out:Out} {o:Oper} (ho:o.op=.buildSlice t len parts)
 (h:cb P n t len (iI env parts) ans=some out):OutOK P o env n L out:=by
 unfold cb at h;split at h
 ·rename_i e hty
  split at h
  ·rename_i sz zs hsz hz
   split at h
   ·rename_i hchk
    simp only[Bool.and_eq_true] at hchk;have k1:=Nat.eq_of_beq_eq_true hchk.1;have k2:=Nat.le_of_ble_eq_true hchk.2;split at h
    ·rename_i cs hcs
     rw[aQ] at h;cases h;refine⟨?_,Nat.le_succ _⟩
     refine OpL.fresh (L:=[]) (bl:={cells:=cs,ty:=e}) (by simp[lk]) fun φ a w hop _=>?_
     obtain⟨z,hzr,hall⟩:=dV hz w;have hp:=kA (φ:=φ) (env:=env) (a:=a) parts.toList (fun x hx=>hop x (by rw[ho];simp only[Op.operands];simpa using hx))
     have hlen:z.cells.size=sz:=by rw[<-Array.length_toList,(hall φ).len,k1]
     obtain⟨arr',hf,ha⟩:=kF hp (ya (hall φ) len) hcs;refine⟨.slice (some ⟨w.heap.size,0,none⟩) len len,{w with heap:=w.heap.push (.cells arr'.toArray e)},?_,rfl,rfl,rfl,⟨_,rfl⟩,rQ rfl ha,fun φ' hn _=>⟨_,len,hn,rfl,Nat.le_refl _,.inr rfl⟩⟩
     have e1:(parts.map fun (i,x)=>(i,a.eval x)).toList=parts.toList.map fun (i,x)=>(i,a.eval x):=by simp
     have k3: ¬(len*sz>2^24):=by omega
     have hf':Instr.fill (fun i=>some (i*sz,sz)) ((Array.range (len*sz)).map (fun i=>z.cells[i%z.cells.size]!)) (parts.toList.map fun (i,x)=>(i,a.eval x))=some arr'.toArray:=by
      have e:((Array.range (len*sz)).map (fun i=>z.cells[i%z.cells.size]!))=((Array.range (len*z.cells.toList.length)).map (fun i=>z.cells.toList.toArray[i%z.cells.toList.toArray.size]!)).toList.toArray:=by
       rw[show z.cells.toList.toArray=z.cells by simp,show z.cells.toList.length=sz by simp[hlen]]
      rw[e];exact hf
     by_cases h0:len*sz=0
     ·have h0':((Array.range (len*sz)).map (fun i=>z.cells[i%z.cells.size]!))=((Array.range (len*sz)).map (fun i=>(#[]:Array Value)[i%(#[]:Array Value).size]!)):=by rw[h0,dZ,dZ]
      rw[h0'] at hf';simp only[execOp,ho,Instr.buildSlice,Sem.run_bind,run_underlying hty,Result.andThen_ok,ao hsz,if_neg k3,Sem.run_pure,e1];rw[if_pos h0];simp only[Sem.run_pure,Result.andThen_ok,hf',newRow,Sem.run_bind,run_newObj]
     ·simp only[execOp,ho,Instr.buildSlice,Sem.run_bind,run_underlying hty,Result.andThen_ok,ao hsz,if_neg k3,Sem.run_pure,e1]
      rw[if_neg h0];simp only[Sem.run_bind,hzr,Sem.run_pure,Result.andThen_ok,hf',newRow,run_newObj]
    ·cases h
   ·cases h
  ·cases h
 ·cases h
def gA (x:Option V) (dflt top:Nat) (ans:List Ans):Option (Nat×List Ans×Prop):=
 match x with
 |none=>some (dflt,ans,True)
 |some (.s (.int _ z))=>match ans with| .idx k::as_=>some (k,as_,z=(k:Int)/\k<=top)|_=>none
 |_=>none
theorem md {P:Program} {w:World} {φ:Ph} {x:Option V} {y:Option Value} (hxy:match x,y with|none,none=>True|some v,some u=>Vr φ v u|_,_=>False) {dflt top:Nat} {ans:List Ans} {k:Nat} {as_:List Ans} {C:Prop} {code:BoundsCode}
 (h:gA x dflt top ans=some (k,as_,C)) (hC:C):(match y with|some v=>Instr.sliceBound v top code|none=>pure dflt).run P w=.ok k w/\(x.isSome=true->k<=top):=by
 unfold gA at h;split at h
 ·cases y with
  |none=>cases h;exact⟨rfl,by simp⟩
  |some v=>exact hxy.elim
 ·cases y with
  |none=>exact hxy.elim
  |some v=>
   simp only[Vr,Sr] at hxy;split at h
   ·cases h
    obtain⟨rfl,h2⟩:=hC;rename_i kk _
    have hb:(0:Int)<=(k:Int)/\(k:Int)<=(top:Int):=by omega
    exact⟨by simp only[Instr.sliceBound,hxy,asIntOf,Sem.run_bind,Sem.run_pure,Result.andThen_ok];rw[if_pos hb];simp,fun _=>h2⟩
   ·cases h
 ·cases h
def jS (n:Nat) (l:List UInt8) (lo hi:Option V) (ans:List Ans):Option Out:=
 match gA hi l.length l.length ans with
 |some (h,as_,C)=>
  match gA lo 0 h as_ with
  |some (k,as',D)=>
   match hi,lo with
   |none,none=>some ⟨⟨[],.s (.str l),[],n⟩,as',C/\D⟩
   |none,some _=>some ⟨⟨[],.s (.str (l.drop k)),[],n⟩,as',C/\D⟩
   |some _,none=>some ⟨⟨[],.s (.str (l.take h)),[],n⟩,as',C/\D⟩
   |some _,some _=>some ⟨⟨[],.s (.str ((l.take h).drop k)),[],n⟩,as',C/\D⟩
  |none=>none
 |none=>none
def uf (cap:Option Nat) (len:Nat):Nat:=match cap with|some c=>c|none=>len
def xN (cap:Option Nat) (k:Nat):Option Nat:=match cap with|some c=>some (c-k)|none=>none
def uB (cap:Option Nat) (k h:Nat):Prop:=match cap with|some c=>k<c|none=>k<h
def ml (n i o len:Nat) (cap:Option Nat) (sz:Nat) (lo hi:Option V) (ans:List Ans):Option Out:=
 match gA hi len (uf cap len) ans with
 |some (h,as_,C)=>
  match gA lo 0 h as_ with
  |some (k,as',D)=>
   match lo with
   |none=>some ⟨⟨[],.s (.slc (some (i,o)) h cap),[],n⟩,as',C/\D⟩
   |some _=>
    match as' with
    | .idx m::as''=>some ⟨⟨[],.s (.slc (some (i,dv o (cj k sz))) m (xN cap k)),[],n⟩,as'',(C/\D)/\h-k=m/\uB cap k h⟩
    |_=>none
  |none=>none
 |none=>none
def gE (P:Program) (n:Nat) (t:TypeId) (x:V) (lo hi mx:Option V) (ans:List Ans):Option Out:=
 match mx with
 |some _=>none
 |none=>
  match P.underlying t,x with
  |some .string,.s (.str l)=>jS n l lo hi ans
  |some (.slice e),.s (.slc (some (i,o)) len cap)=>match aF P e with|some sz=>ml n i o len cap sz lo hi ans|none=>none
  |some (.slice e),.s (.slc none len cap)=>match lo,hi,aF P e with|none,none,some _=>some ⟨⟨[],.s (.slc none len cap),[],n⟩,ans,True⟩|_,_,_=>none
  |_,_=>none
theorem Cz {φ:Ph} {env:List V} {a:Act} (x:Option Operand) (h:∀ y∈x.toList,Vr φ (ev env y) (a.eval y)):match x.map (ev env),x.map a.eval with|none,none=>True|some v,some u=>Vr φ v u|_,_=>False:=by
 cases x with
 |none=>trivial
 |some y=>exact h y (by simp)
theorem xe {P:Program} {env:List V} {n:Nat} {L:Hp} {t:TypeId} {x:Operand} {lo hi mx:Option Operand} {ans:List Ans} {out:Out} {o:Oper} (ho:o.op=.slice t x lo hi mx)
 (h:gE P n t (ev env x) (lo.map (ev env)) (hi.map (ev env)) (mx.map (ev env)) ans=some out) (hC:out.C):OutOK P o env n L out:=by
 have hmx:mx=none:=by
  unfold gE at h
  cases mx with
  |none=>rfl
  |some m=>simp at h
 subst hmx
 have lower:∀ (d:Option Out),d=some out->True:=fun _ _=>trivial
 have light:∀ (v:V) (as_:List Ans) (C:Prop),out=⟨⟨[],v,[],n⟩,as_,C⟩->(∀ φ (a:Act) (w:World),(∀ y∈o.op.operands,Vr φ (ev env y) (a.eval y))->∃ y,(execOp a.eval o).run P w=.ok (.value y) w/\Vr φ v y)->OutOK P o env n L out:=by
  intro v as_ C e hh;subst e;exact⟨OpL.light fun φ a w hx _=>hh φ a w hx,Nat.le_refl _⟩
 have opx:x∈o.op.operands:=by simp[ho,Op.operands]
 have oplo:∀ y∈lo.toList,y∈o.op.operands:=fun y hy=>by rw[ho];simp[Op.operands];simp at hy;simp[hy]
 have ophi:∀ y∈hi.toList,y∈o.op.operands:=fun y hy=>by rw[ho];simp[Op.operands];simp at hy;simp[hy]
 unfold gE at h;simp only[Option.map_none] at h;split at h
 · --a string
   rename_i l hty hx;unfold jS at h;split at h
   ·rename_i hb as_ C hhi
    split at h
    ·rename_i k as' D hlo
     have key:C->D->∀ φ (a:Act) (w:World),(∀ y∈o.op.operands,Vr φ (ev env y) (a.eval y))->(execOp a.eval o).run P w=.ok (.value (.string ⟨((l.take hb).drop k).toArray⟩)) w:=by
      intro c1 c2 φ a w hop;have g:=hop x opx;rw[hx] at g;simp only[Vr,Sr] at g;have r1:=(md (P:=P) (w:=w) (code:=.sliceAlen) (Cz hi fun y hy=>hop y (ophi y hy)) hhi c1).1;have r2:=(md (P:=P) (w:=w) (code:=.sliceB) (Cz lo fun y hy=>hop y (oplo y hy)) hlo c2).1;have es:(⟨l.toArray⟩:ByteArray).size=l.length:=rfl
      have ex:(⟨l.toArray⟩:ByteArray).extract k hb=⟨((l.take hb).drop k).toArray⟩:=by
       apply ByteArray.ext;simp[ByteArray.data_extract];rw[List.drop_take]
      have hsb:(Instr.sliceBounds false l.length l.length (lo.map a.eval) (hi.map a.eval) none).run P w=.ok (k,hb,l.length) w:=by
       unfold Instr.sliceBounds
       cases hi<;>cases lo<;>simp_all
      simp only[execOp,ho,g,Option.map_none,Instr.sliceAt,Instr.slice,Sem.run_bind,run_underlying hty,Result.andThen_ok,es,Option.isSome_none,Bool.false_eq_true,if_false,Sem.run_pure,hsb,ex]
     have kle:D->lo=none->k=0:=by
      intro _ e;subst e;simp[gA] at hlo;exact hlo.1.symm
     have hle:C->hi=none->hb=l.length:=by
      intro _ e;subst e;simp[gA] at hhi;exact hhi.1.symm
     cases hi with
     |none=>
      cases lo with
      |none=>
       simp at h;subst h
       refine light _ _ _ rfl fun φ a w hop=>⟨_,key hC.1 hC.2 φ a w hop,?_⟩
       rw[kle hC.2 rfl,hle hC.1 rfl];simp[Vr,Sr]
      |some _=>
       simp at h;subst h
       refine light _ _ _ rfl fun φ a w hop=>⟨_,key hC.1 hC.2 φ a w hop,?_⟩
       rw[hle hC.1 rfl];simp[Vr,Sr]
     |some _=>
      cases lo with
      |none=>
       simp at h;subst h
       refine light _ _ _ rfl fun φ a w hop=>⟨_,key hC.1 hC.2 φ a w hop,?_⟩
       rw[kle hC.2 rfl];simp[Vr,Sr]
      |some _=>
       simp at h;subst h
       exact light _ _ _ rfl fun φ a w hop=>⟨_,key hC.1 hC.2 φ a w hop,rfl⟩
    ·cases h
   ·cases h
 · --a slice
   rename_i e i off len cap hty hx;split at h
   ·rename_i sz hsz
    unfold ml at h;split at h
    ·rename_i hb as_ C hhi
     split at h
     ·rename_i k as' D hlo
      have key:∀ (c:Nat),C->D->(cap=none\/cap=some c)->len<=c->∀ φ (a:Act) (w:World) (b off:Nat),(∀ y∈o.op.operands,Vr φ (ev env y) (a.eval y))->a.eval x=.slice (some ⟨b,off,none⟩) len c->
       (execOp a.eval o).run P w=.ok (.value (.slice (if c=k then some ⟨b,off,none⟩ else some ⟨b,off+k*sz,none⟩) (hb-k) (c-k))) w/\hb<=c:=by
       intro c c1 c2 hcap hle φ a w b off hop g
       have hhb:hb<=c/\(match hi.map a.eval with|some v=>Instr.sliceBound v c .sliceAcap|none=>pure len).run P w=.ok hb w:=by
        have q:=Cz (φ:=φ) (env:=env) (a:=a) hi fun y hy=>hop y (ophi y hy)
        cases hi with
        |none=>simp[gA] at hhi;obtain⟨rfl,_,_⟩:=hhi;exact⟨hle,rfl⟩
        |some yh=>
         simp only[Option.map_some] at q hhi |-;unfold gA at hhi;split at hhi
         ·rename_i he;cases he
         ·rename_i kd z he
          simp only[Option.some.injEq] at he;rw[he] at q;simp only[Vr,Sr] at q;split at hhi
          ·simp only[Option.some.injEq,Prod.mk.injEq] at hhi
           obtain⟨rfl,rfl,rfl⟩:=hhi;obtain⟨rfl,h2⟩:=c1
           have h3:uf cap len<=c:=by rcases hcap with rfl|rfl<;>simp[uf,hle]
           refine⟨by omega,?_⟩;simp only[Instr.sliceBound,q,asIntOf,Sem.run_bind,Sem.run_pure,Result.andThen_ok];rw[if_pos (by omega)];simp
          ·cases hhi
         ·cases hhi
       have r2:=(md (P:=P) (w:=w) (code:=.sliceB) (Cz lo fun y hy=>hop y (oplo y hy)) hlo c2).1
       have hsb:(Instr.sliceBounds true len c (lo.map a.eval) (hi.map a.eval) none).run P w=.ok (k,hb,c) w:=by
        have q:=hhb.2;unfold Instr.sliceBounds
        cases hi<;>cases lo<;>simp_all
       refine⟨?_,hhb.1⟩;simp only[execOp,ho,g,Option.map_none,Instr.sliceAt,Instr.slice,Sem.run_bind,run_underlying hty,Result.andThen_ok,hsb,ao hsz,Option.map_some,aA,Sem.run_pure]
      have kle:D->lo=none->k=0:=by
       intro _ e;subst e;simp[gA] at hlo;exact hlo.1.symm
      cases lo with
      |none=>
       simp at h;subst h
       refine light _ _ _ rfl fun φ a w hop=>?_
       have g:=hop x opx;rw[hx] at g;obtain⟨b,c,hb1,hv,hlc,hcc⟩:=g;obtain⟨r1,r2⟩:=key c hC.1 hC.2 hcc hlc φ a w b.1 (off+b.2) hop hv;have hk:=kle hC.2 rfl;subst hk;refine⟨_,r1,?_⟩
       have:(if c=0 then some (⟨b.1,off+b.2,none⟩:Addr) else some ⟨b.1,off+b.2+0*sz,none⟩)=some ⟨b.1,off+b.2,none⟩:=by split<;>simp
       rw[this];exact⟨b,c,hb1,by simp,r2,hcc⟩
      |some lv=>
       simp only[Option.map_some] at h;split at h
       ·rename_i m as''
        simp only[Option.some.injEq] at h;subst h
        refine light _ _ _ rfl fun φ a w hop=>?_
        have g:=hop x opx;rw[hx] at g;obtain⟨b,c,hb1,hv,hlc,hcc⟩:=g;obtain⟨⟨c1,c2⟩,c3,c4⟩:=hC;obtain⟨r1,r2⟩:=key c c1 c2 hcc hlc φ a w b.1 (off+b.2) hop hv;refine⟨_,r1,?_⟩
        have hne: ¬c=k:=by
         rcases hcc with rfl|rfl
         ·simp only[uB] at c4;omega
         ·simp only[uB] at c4;omega
        rw[if_neg hne];refine⟨b,c-k,hb1,by rw[aV,aX,c3,Nat.add_right_comm],by omega,?_⟩
        rcases hcc with rfl|rfl
        ·exact .inl rfl
        ·exact .inr rfl
       ·cases h
     ·cases h
    ·cases h
   ·cases h
 · --the nil slice,whole
   rename_i e len cap hty hx
   cases hsz:aF P e with
   |none=>cases lo<;>cases hi<;>simp[hsz] at h
   |some sz=>
    cases lo<;>cases hi<;>simp[hsz] at h
    subst h
    refine light _ _ _ rfl fun φ a w hop=>?_
    have g:=hop x opx;rw[hx] at g;obtain⟨rfl,rfl,hv⟩:=g;refine⟨.slice none 0 0,?_,rfl,rfl,rfl⟩
    have hsb:(Instr.sliceBounds true 0 0 none none none).run P w=.ok (0,0,0) w:=by simp[Instr.sliceBounds]
    simp only[execOp,ho,hv,Option.map_none,Instr.sliceAt,Instr.slice,Sem.run_bind,run_underlying hty,Result.andThen_ok,hsb,ao hsz,Sem.run_pure,if_true,Nat.sub_self]
 ·cases h
end Ab
end Go.Proofs.YtegjgpldfgjoiaaGreatDoor
