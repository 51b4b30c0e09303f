import Derived.Test.YtegjgpldfgjoiaaGreatDoorCnB12
import Derived.Test.YtegjgpldfgjoiaaGreatDoorCnB32
import Derived.Test.YtegjgpldfgjoiaaGreatDoorCnB33
set_option linter.unusedSimpArgs false
set_option linter.unusedVariables false
namespace Go.Proofs.YtegjgpldfgjoiaaGreatDoor
namespace Ab
open Go Go.MapKept
def itB (m:Nat) (s:List Nat) (ck:Nat):Bl:={cells:=[.map (some m)],ty:=0,kind:=some ⟨ck,false,s,ck,true⟩}
theorem zV {φ:Ph} {w:World} {b:Nat×Nat} {m ck:Nat} {s:List Nat} (h:BlAt φ w b (itB m s ck)) (hb:b.2=0):∃ q,φ m=some q/\q.2=0/\w.heap[b.1]? =some (.mapIter (some q.1) ck s.toArray ck):=by
 obtain⟨pre,xs,rest,fr,h1,h2,h3,h4,h5,h6⟩:=h;rw[hb] at h2;have:=List.eq_nil_of_length_eq_zero h2;subst this;have:=h4 rfl;subst this
 match xs,h3 with
 |[y],⟨hy,_⟩=>
  obtain⟨q,hq,hq2,rfl⟩:=hy;refine⟨q,hq,hq2,?_⟩;rw[h1];simp[itB,bC,yQ]
theorem Bn {φ:Ph} {w:World} {b q:Nat×Nat} {m ck:Nat} {s:List Nat} (hq:φ m=some q) (hq2:q.2=0) (h:w.heap[b.1]? =some (.mapIter (some q.1) ck s.toArray ck)) (hb:b.2=0):BlAt φ w b (itB m s ck):=by
 refine⟨[],[.map (some q.1)],[],(0,0),?_,by rw[hb];rfl,⟨⟨q,hq,hq2,rfl⟩,trivial⟩,fun _=>rfl,fun _ o ho=>by simp,⟨fun g z e=>(by cases e),fun g e=>(by cases e)⟩⟩;rw[h];simp[itB,bC,yQ]
theorem kg {P:Program} (w:World) (n:Nat) (hn:0<n):∃ i d,(choose (.mapNext n)).run P w=.ok i {w with drawn:=d}/\i<n:=by
 by_cases h:n<=1
 ·obtain rfl:n=1:=by omega
  exact⟨0,w.drawn,by simp[choose,Sem.run,Question.forced],by omega⟩
 ·refine⟨w.tape w.drawn (.mapNext n)%n,w.drawn+1,?_,Nat.mod_lt _ hn⟩
  simp[choose,Sem.run,Question.forced,Question.cut,h]
theorem lQ {P:Program} {w:World} {r:Nat} {m:Option Nat} {a c:Nat} {s:Array Nat} (hb:w.heap[r]? =some (.mapIter m a s c)):(getObj r).run P w=.ok (.mapIter m a s c) w:=by
 simp[getObj,Sem.run,hb]
theorem xX {P:Program} {w:World} {r:Nat} {m:Option Nat} {a c:Nat} {s:Array Nat} (o:Obj) (hb:w.heap[r]? =some (.mapIter m a s c)):(setObj r o).run P w=.ok () {w with heap:=w.heap.setIfInBounds r o}:=by
 simp[setObj,Sem.run,hb]
theorem yK {P:Program} {w:World} {r bm ck:Nat} {s:List Nat} {M:List MapEntry} {t:TypeId} (hr:w.heap[r]? =some (.mapIter (some bm) ck s.toArray ck)) (hm:w.heap[bm]? =some (.map M.toArray ck)) (hck:∀ e∈M,e.born<ck):
 ((∀ e∈M,e.born∈s)/\(Instr.next (.pointer (some ⟨r,0,none⟩)) false t).run P w=.ok (.tuple #[.bool false]) w)\/
 (∃ q∈M,q.born∉s/\∃ d,(Instr.next (.pointer (some ⟨r,0,none⟩)) false t).run P w=.ok (.tuple #[.bool true,q.key,q.val]) {w with drawn:=d,heap:=w.heap.setIfInBounds r (.mapIter (some bm) ck (s++[q.born]).toArray ck)}):=by
 have hu:(!s.toArray.isEmpty&& !M.toArray.isEmpty&&M.toArray.all (fun e=>decide (e.born≥ck)))=false:=by
  cases M with
  |nil=>simp
  |cons a l=>
   have:=hck a (by simp)
   have:decide (a.born≥ck)=false:=by simp;omega
   simp[this]
 have hL:(M.toArray.filter fun e=> !s.toArray.contains e.born)=(M.filter fun e=> !s.contains e.born).toArray:=by simp[List.contains_toArray,List.filter_toArray]
 have hold:((M.filter fun e=> !s.contains e.born).toArray.filter fun x=>decide (x.born<ck))=(M.filter fun e=> !s.contains e.born).toArray:=by
  rw[List.filter_toArray];congr 1
  refine List.filter_eq_self.2 fun e he=>?_
  simpa using hck e (List.mem_filter.1 he).1
 have hnew:((M.filter fun e=> !s.contains e.born).toArray.filter fun x=>decide (x.born≥ck))= #[]:=by
  rw[List.filter_toArray];congr 1
  refine List.filter_eq_nil_iff.2 fun e he=>?_
  have:=hck e (List.mem_filter.1 he).1;simp;omega
 cases hq:(M.filter fun e=> !s.contains e.born) with
 |nil=>
  left;refine⟨fun e he=>?_,?_⟩
  ·have:=List.filter_eq_nil_iff.1 hq e he
   simpa using this
  ·simp only[Instr.next,Sem.run_bind,lQ hr,Go.MapKept.run_getObj_map hm,Result.andThen_ok]
   rw[hu];simp only[Bool.false_eq_true,if_false,hL,hq];simp[choose,Sem.run,Question.forced]
 |cons a l=>
  right;rw[hq] at hold hnew;obtain⟨i,d,hc,hi⟩:=kg (P:=P) w (a::l).length (by simp);refine⟨(a::l)[i],?_,?_,d,?_⟩
  ·have:(a::l)[i]∈M.filter fun e=> !s.contains e.born:=by rw[hq];exact List.getElem_mem hi
   exact (List.mem_filter.1 this).1
  ·have:(a::l)[i]∈M.filter fun e=> !s.contains e.born:=by rw[hq];exact List.getElem_mem hi
   simpa using (List.mem_filter.1 this).2
  ·simp only[Instr.next,Sem.run_bind,lQ hr,Go.MapKept.run_getObj_map hm,Result.andThen_ok]
   rw[hu];simp only[Bool.false_eq_true,if_false,hL,hq,hold,hnew]
   have e1:((if (a::l).toArray.isEmpty then #[none] else #[])++((a::l).toArray++ #[]).map some:Array (Option MapEntry))=((a::l).map some).toArray:=by simp
   rw[e1]
   have e2:((a::l).map some).toArray.size=(a::l).length:=by simp
   rw[e2];simp only[Sem.run_bind,hc,Result.andThen_ok]
   have e3:((a::l).map some).toArray[i]? =some (some (a::l)[i]):=by
    rw[List.getElem?_toArray,List.getElem?_map,List.getElem?_eq_getElem hi];rfl
   rw[e3];simp only[Sem.run_bind];rw[xX (w:={w with drawn:=d}) _ hr];simp[Result.andThen,Sem.run_pure]
section
variable {κ α:Type} {φ:Ph} {K:KD κ} {agg:Bool} {c:α->List S}
theorem EntsR.of_mem:∀ {E:En κ α} {M:List MapEntry},EntsR φ K agg c E M->∀ m∈M,∃ e∈E,m.key=K.v e.2.1/\m.born=e.1/\VO φ agg (c e.2.2) m.val
 |[],[],_,m,hm=>by cases hm
 |[],_::_,h,_,_=>h.elim
 |_::_,[],h,_,_=>h.elim
 |e::E,m::M,⟨h1,h2⟩,x,hx=>by
  rcases List.mem_cons.1 hx with rfl|hx
  ·exact⟨e,by simp,h1⟩
  ·obtain⟨e',g1,g2⟩:=EntsR.of_mem h2 x hx
   exact⟨e',List.mem_cons_of_mem _ g1,g2⟩
theorem EntsR.to_mem:∀ {E:En κ α} {M:List MapEntry},EntsR φ K agg c E M->∀ e∈E,∃ m∈M,m.born=e.1
 |[],[],_,m,hm=>by cases hm
 |[],_::_,h,_,_=>h.elim
 |_::_,[],h,_,_=>h.elim
 |e::E,m::M,⟨h1,h2⟩,x,hx=>by
  rcases List.mem_cons.1 hx with rfl|hx
  ·exact⟨m,by simp,h1.2.1⟩
  ·obtain⟨e',g1,g2⟩:=EntsR.to_mem h2 x hx
   exact⟨e',List.mem_cons_of_mem _ g1,g2⟩
def bnM (E:En κ α) (z:Nat):Option (κ×α):=match E with
 |[]=>none
 |e::t=>if e.1=z then some e.2 else bnM t z
theorem EntsR.born {z:Nat} {y:κ×α}:∀ {E:En κ α} {M:List MapEntry},EntsR φ K agg c E M->bnM E z=some y->∃ m,(M.find? fun x=>x.born==z)=some m/\m.key=K.v y.1/\VO φ agg (c y.2) m.val
 |[],[],_,h=>by cases h
 |[],_::_,h,_=>h.elim
 |_::_,[],h,_=>h.elim
 |e::E,m::M,⟨⟨h1,h2,h3⟩,h4⟩,h=>by
  rw[bnM] at h;split at h
  ·rename_i e'
   cases h;exact⟨m,by simp[List.find?_cons,h2,e'],h1,h3⟩
  ·rename_i e'
   obtain⟨m',g1,g2⟩:=EntsR.born h4 h;refine⟨m',?_,g2⟩
   have:(m.born==z)=false:=by simp[h2,e']
   simp only[List.find?_cons,this];exact g1
theorem VO.u {w:Nat} {l:List S} {v:Value} (hl:l.length=w) (h1:agg=false->w=1) (h:VO (fl φ) agg l v):Ur φ (uO agg l) v:=by
 have:=Ur.mono (φ:=fl φ) (φ':=φ) ⟨fun _ _ h=>(by cases h),fun _ _ h=>h⟩ (h.ur (fun e=>by rw[hl];exact h1 e));exact this
end
section
variable {P:Program} {b:Nat} {ops:Array Oper} {d:Bool} {acc:List Row} {os:List Oper} {env:List V} {n:Nat} {L:Hp} {R:Post}
variable {κ α:Type} {dst:Option Tmp} {x ix:Operand} {tx kt et:TypeId} {t:TypeId} {pos:String} {af:Array Edge} {gd:Option (Nat×Bool)} {K:KD κ} {agg:Bool} {w:Nat} {c:α->List S} {E:En κ α} {ck:Nat} {r0:Bool} {i r:Nat} {s:List Nat}
theorem RegX.rgM (hx:ev env x=.s (.map (some i))) (hl:lk L i=some {mB K agg w c E ck with ro:=r0}) (hw:∀ a,(c a).length=w) (hne:i≠n) (hty:P.underlying tx=some (.map kt et))
 (hwt:aI ops env ⟨dst,.range tx x,t,pos,af,gd⟩=some true)
 (kk:RegX P ops d (av d ⟨dst,.range tx x,t,pos,af,gd⟩ [i] [(n,some (itB i [] ck))] acc) os (aB env dst (.s (.itr n i))) (n+1) (puts L [(n,some (itB i [] ck))]) R):
 RegX P ops d acc (⟨dst,.range tx x,t,pos,af,gd⟩::os) env n L R:=by
 refine RegX.op (foot:=[i]) (wr:=[(n,some (itB i [] ck))]) hwt ?_ (Nat.le_succ _) kk
 have e:puts (res [i] L) [(n,some (itB i [] ck))]=put (res [i] L) n (some (itB i [] ck)):=by simp[puts]
 rw[e]
 refine OpL.fresh (L:=res [i] L) (by simp[res,ak,lk,hne]) fun φ a W hop hg=>?_
 have g1:=hop x (by simp[Op.operands]);rw[hx] at g1;obtain⟨q,hq,hq2,hv⟩:=g1;obtain⟨q',hq',hat⟩:=hg.hr i {mB K agg w c E ck with ro:=r0} (by rw[aE];simp[hl]);rw[hq] at hq';cases hq';obtain⟨M,hm,hM⟩:=ge hw hat hq2
 have hrun:(Instr.range tx (a.eval x)).run P W=.ok (.pointer (some ⟨W.heap.size,0,none⟩)) {W with heap:=W.heap.push (.mapIter (some q.1) ck #[] ck)}:=by
  simp only[Instr.range,Sem.run_bind,Ab.run_underlying hty,Result.andThen_ok,hv,Go.MapKept.run_getObj_map hm];simp[newObj,Sem.run]
 refine⟨.pointer (some ⟨W.heap.size,0,none⟩),{W with heap:=W.heap.push (.mapIter (some q.1) ck #[] ck)},?_,rfl,rfl,rfl,⟨_,rfl⟩,Bn hq hq2 (by simp) rfl,fun φ' hn _=>⟨_,hn,rfl,rfl⟩⟩;simp only[execOp];rw[Sem.run_bind,hrun];rfl
theorem RegX.enM {z:Nat} {y:κ×α} (hx:ev env x=.s (.itr r i)) (hr:lk L r=some (itB i (s++[z]) ck)) (hl:lk L i=some {mB K agg w c E ck with ro:=r0}) (hw:∀ a,(c a).length=w) (h1:agg=false->w=1) (hz:bnM E z=some y)
 (hwt:aI ops env ⟨dst,.entry x,t,pos,af,gd⟩=some true)
 (kk:RegX P ops d (av d ⟨dst,.entry x,t,pos,af,gd⟩ [r,i] [] acc) os (aB env dst (.tup [.s (K.s y.1),uO agg (c y.2)])) n L R):
 RegX P ops d acc (⟨dst,.entry x,t,pos,af,gd⟩::os) env n L R:=by
 refine RegX.op (foot:=[r,i]) (wr:=[]) hwt (OpL.light fun φ a W hop hg=>?_) (Nat.le_refl _) kk;have g1:=hop x (by simp[Op.operands]);rw[hx] at g1;obtain⟨p,hp,hp2,hv⟩:=g1;obtain⟨p',hp',hat⟩:=hg.hr r (itB i (s++[z]) ck) (by rw[aE];simp[hr]);rw[hp] at hp';cases hp';obtain⟨q,hq,hq2,hit⟩:=zV hat hp2;obtain⟨q',hq',hatm⟩:=hg.hr i {mB K agg w c E ck with ro:=r0} (by rw[aE];simp[hl]);rw[hq] at hq';cases hq';obtain⟨M,hm,hM⟩:=ge hw hatm hq2;obtain⟨m,f1,f2,f3⟩:=hM.born hz;refine⟨.tuple #[m.key,m.val],?_,[m.key,m.val],rfl,(K.sr _ _ _).2 f2,f3.u (hw _) h1,trivial⟩
 have hb:(s++[z]).toArray.back? =some z:=by simp[Array.back?]
 simp only[execOp,hv,Instr.entry,Sem.run_bind,lQ hit,Result.andThen_ok,hb,Go.MapKept.run_getObj_map hm];simp[f1]
theorem RegX.dlM [DecidableEq κ] {ty2:TypeId} {k:κ} {x0:α} (E':En κ α) (hx:ev env x=.s (.map (some i))) (hix:ev env ix=.s (K.s k)) (hl:lk L i=some (mB K agg w c E ck)) (hw:∀ a,(c a).length=w) (hty:P.underlying tx=some (.map kt et)) (hd:P.underlying kt=some K.d) (hr:lkM E k=some x0) (he:deM E k=E')
 (hwt:aI ops env ⟨dst,.call ⟨.builtin .delete,#[x,ix],#[tx,ty2]⟩,t,pos,af,gd⟩=some true)
 (kk:RegX P ops d (av d ⟨dst,.call ⟨.builtin .delete,#[x,ix],#[tx,ty2]⟩,t,pos,af,gd⟩ [i] [(i,some (mB K agg w c E' ck))] acc) os (aB env dst (.tup [])) n (puts L [(i,some (mB K agg w c E' ck))]) R):
 RegX P ops d acc (⟨dst,.call ⟨.builtin .delete,#[x,ix],#[tx,ty2]⟩,t,pos,af,gd⟩::os) env n L R:=by
 subst he;refine RegX.op (foot:=[i]) (wr:=[(i,some (mB K agg w c (deM E k) ck))]) hwt ?_ (Nat.le_refl _) kk;intro φ a W Q hop hg hf
 have e1:res [i] L=[(i,some (mB K agg w c E ck))]:=by simp[res,hl]
 have e2:puts (res [i] L) [(i,some (mB K agg w c (deM E k) ck))]=[(i,some (mB K agg w c (deM E k) ck))]:=by rw[e1];simp[puts,put]
 have g1:=hop x (by simp[Op.operands,Call.operands]);have g2:=hop ix (by simp[Op.operands,Call.operands]);rw[hx] at g1;rw[hix] at g2;obtain⟨b,hb,hb2,hv⟩:=g1;have g2:a.eval ix=K.v k:=(K.sr _ _ _).1 g2;rw[e1] at hg;obtain⟨b',hb',hat⟩:=hg.hr i (mB K agg w c E ck) (by simp[lk]);rw[hb] at hb';cases hb';obtain⟨M,hm,hM⟩:=ge (r:=false) hw hat hb2;have hlt:=hat.lt
 have hc:=fun em=>run_checkKey (P:=P) (w:=W) hd (K.key k) em 9999
 obtain⟨j,m,f1,f2,f3,f4,_,f6⟩:=(EntsR.find k 0 hM).2 x0 hr;rw[Nat.zero_add] at f1;have hfn:=run_findKey (P:=P) (w:=W) hd f1
 have hrun:(execOp a.eval ⟨dst,.call ⟨.builtin .delete,#[x,ix],#[tx,ty2]⟩,t,pos,af,gd⟩).run P W=.ok (.value (.tuple #[])) {W with heap:=W.heap.setIfInBounds b.1 (.map (M.eraseIdx j).toArray ck)}:=by
  simp only[execOp,resolve,Sem.run_bind,Sem.run_pure,Result.andThen_ok,invoke,builtin,List.map_toArray,List.map_cons,List.map_nil,hv,g2,Builtin.delete_,List.getElem?_toArray,List.getElem?_cons_zero,List.getElem?_cons_succ,Ab.run_underlying hty,Go.MapKept.run_getObj_map hm,hc,hfn];rw[Go.MapKept.run_setObj_map _ hm];simp
 obtain⟨good,stp⟩:=iK (bl':=mB K agg w c (deM E k) ck) (ob:=.map (M.eraseIdx j).toArray ck) hg hb rfl rfl (rV hw (by simp[hlt]) f6 hb2);unfold Oper.wp;rw[hrun,Oper.upon_value];exact⟨φ,.tuple #[],rfl,⟨[],rfl,trivial⟩,by rw[e2];exact good,by rw[e2,e1];exact stp,fun _ _=>rfl⟩
theorem Ex.nxt {id:Nat} (hops:ops.toList=⟨dst,.next x false,t,pos,af,none⟩::os) (hx:ev env x=.s (.itr r i)) (hr:lk L r=some (itB i s ck)) (hl:lk L i=some {mB K agg w c E ck with ro:=r0}) (hri:r≠i) (hw:∀ a,(c a).length=w) (h1:agg=false->w=1) (hck:∀ e∈E,e.1<ck)
 (k0:(∀ e∈E,e.1∈s)->RegX P ops false [] os (aB env dst (.tup [.s (.bool false)])) n L R)
 (k1:∀ e∈E,e.1∉s->RegX P ops false [] os (aB env dst (.tup [.s (.bool true),.s (K.s e.2.1),uO agg (c e.2.2)])) n (put L r (some (itB i (s++[e.1]) ck))) R):
 Ex P b (.region id ops false) env n L R:=by
 intro φ a W g1 g2 g3 g4;refine wp_region ?_
 have hsz:ops.size=os.length+1:=by rw[<-Array.length_toList,hops];simp
 have hrest:∀ (env':List V) (L':Hp),RegX P ops false [] os env' n L' R->∀ (a':Act) (w':World),EnvR φ env' a'->Good φ L' w'->Stp φ L W φ L' w'->
  wpOps P ops (fun x a' w'=>∃ φ' env' n' L',R x env' n' L'/\EnvR φ' env' a'/\Good φ' L' w'/\(∀ i,n'<=i->φ' i=none)/\b<=n'/\Stp φ L W φ' L' w'/\(∀ i,i<b->φ' i=φ i)) (List.range' 1 os.length) a' w':=by
  rintro env' L' ⟨rows,q1,q2,_,q4⟩ a' w' e1 e2 e3
  have hlen:rows.length=os.length:=by rw[<-q1,List.length_map]
  rw[<-hlen];refine la (n₀:=b) rows 1 env' n L' φ a' w' (fun j=>?_) q2 e1 e2 g3 g4 e3 (fun _ _=>rfl) ?_
  ·rw[<-Array.getElem?_toList,hops,show 1+j=j+1 by omega,List.getElem?_cons_succ,<-q1,List.getElem?_map]
  ·intro φ' a'' w'' k1 k2 k3 k4 k5 k6
   rw[vh] at k1;rw[uR] at k2 k5;exact⟨φ',_,_,_,q4,k1,k2,k3,k4,k5,k6⟩
 rw[List.range_eq_range',hsz,List.range'_succ,wpOps_cons];unfold Go.wpOp
 have h0:ops[0]? =some ⟨dst,.next x false,t,pos,af,none⟩:=by rw[<-Array.getElem?_toList,hops];rfl
 simp only[h0];rw[sw (b:=true) (ops:=ops) g1 (by rfl)];simp only[if_true];left;have v1:=g1.ev x;rw[hx] at v1;obtain⟨p,hp,hp2,hv⟩:=v1;obtain⟨p',hp',hat⟩:=g2.hr r _ hr;rw[hp] at hp';cases hp';obtain⟨q,hq,hq2,hit⟩:=zV hat hp2;obtain⟨q',hq',hatm⟩:=g2.hr i _ hl;rw[hq] at hq';cases hq';obtain⟨M,hm,hM⟩:=ge hw hatm hq2;unfold Oper.wp
 rcases yK (P:=P) (t:=t) hit hm (fun e he=>by
  obtain⟨e',m1,_,m2,_⟩:=hM.of_mem e he
  rw[m2];exact hck e' m1) with ⟨n1,n2⟩|⟨m,n1,n2,dr,n3⟩
 ·have hrun:(execOp a.eval ⟨dst,.next x false,t,pos,af,none⟩).run P W=.ok (.value (.tuple #[.bool false])) W:=by
   simp only[execOp,hv];rw[Sem.run_bind,n2];rfl
  rw[hrun,Oper.upon_value];refine hrest _ _ (k0 fun e he=>?_) _ _ (g1.put _ ⟨[.bool false],rfl,rfl,trivial⟩) g2 (Stp.refl _ _ _);obtain⟨m,m1,m2⟩:=hM.to_mem e he;rw[<-m2];exact n1 m m1
 ·obtain⟨e,m1,m2,m3,m4⟩:=hM.of_mem m n1
  have hrun:(execOp a.eval ⟨dst,.next x false,t,pos,af,none⟩).run P W=.ok (.value (.tuple #[.bool true,m.key,m.val])) {W with drawn:=dr,heap:=W.heap.setIfInBounds p.1 (.mapIter (some q.1) ck (s++[m.born]).toArray ck)}:=by
   simp only[execOp,hv];rw[Sem.run_bind,n3];rfl
  rw[hrun,Oper.upon_value];have hlt:=hat.lt
  have hsub:Sub [(r,some (itB i s ck))] L:=by
   intro i' bl' hi';rw[ak] at hi';split at hi'
   ·rename_i e;subst e;cases hi';exact hr
   ·simp[lk] at hi'
  have gd:=lP (d:=dr) g2;obtain⟨good,stp⟩:=iK (w:={W with drawn:=dr}) (bl':=itB i (s++[e.1]) ck) (ob:=.mapIter (some q.1) ck (s++[m.born]).toArray ck) (gd.sub hsub) hp rfl rfl (Bn hq hq2 (by rw[m3];simp[hlt]) hp2)
  obtain⟨G,ST⟩:=frame (M':=put L r (some (itB i (s++[e.1]) ck))) gd hsub good stp (Ph.le_refl _) (by
   intro i' bl' hi';rw[ax] at hi';split at hi'
   ·rename_i e;subst e;cases hi';exact .inl (by simp[ak])
   ·rename_i hne
    exact .inr ⟨by rw[ak,if_neg hne];rfl,hi'⟩)
  refine hrest _ _ (k1 e m1 (by rw[<-m3];exact n2)) _ _ (g1.put _ ⟨[.bool true,m.key,m.val],rfl,rfl,(K.sr _ _ _).2 m2,m4.u (hw _) h1,trivial⟩) G (mO ST)
end
end Ab
end Go.Proofs.YtegjgpldfgjoiaaGreatDoor
namespace Go.Proofs.YtegjgpldfgjoiaaGreatDoor
open Go Ab
set_option maxRecDepth 100000
set_option maxHeartbeats 4000000
abbrev XE:=List (Nat×Ent)
abbrev YT:=List (Nat×Tb)
def enX (X:XE):En Int Ent:=X.map fun x=>(x.1,(x.1:Int),x.2)
def enQ (X:XE):En By Int:=X.map fun x=>(x.1,x.2.path,(x.1:Int))
def enT (Y:YT):En Int Tb:=Y.map fun y=>(y.1,1+(y.1:Int),y.2)
def oX (X:XE) (nx:Nat):Bl:=mB kdI true 14 cf (enX X) nx
def pX (X:XE) (nx:Nat):Bl:=mB kdS false 1 iC (enQ X) nx
def tX (Y:YT) (nt:Nat):Bl:=mB kdI true 2 eF (enT Y) nt
abbrev spX (X:XE) (nx:Nat) (Y:YT) (nt:Nat):Hp:=[(0,some (bn 1 2 3 (nx:Nat) (1+(nt:Int)))),(1,some (oX X nx)),(2,some (pX X nx)),(3,some (tX Y nt))]
def nuX {α:Type} (b:Nat):List α->List (Nat×α)
 |[]=>[]
 |x::t=>(b,x)::nuX (b+1) t
theorem tv:∀ (E:List Ent) (b:Nat),enX (nuX b E)=enI b (b:Int) E
 |[],_=>rfl
 |x::t,b=>by
  have:=tv t (b+1);rw[show ((b+1:Nat):Int)=(b:Int)+1 by omega] at this;rw[nuX,enI,<-this];rfl
theorem AG:∀ (E:List Ent) (b:Nat),enQ (nuX b E)=enP b E
 |[],_=>rfl
 |x::t,b=>by rw[nuX,enP,<-AG t (b+1)];rfl
theorem pe:∀ (T:List Tb) (b:Nat),enT (nuX b T)=enI b (1+(b:Int)) T
 |[],_=>rfl
 |x::t,b=>by
  have:=pe t (b+1);rw[show 1+((b+1:Nat):Int)=1+(b:Int)+1 by omega] at this;rw[nuX,enI,<-this];rfl
theorem oB_x (E:List Ent):oB E=oX (nuX 0 E) E.length:=by rw[oX,tv];rfl
theorem pB_x (E:List Ent):pB E=pX (nuX 0 E) E.length:=by rw[pX,AG];rfl
theorem tB_x (T:List Tb):tB T=tX (nuX 0 T) T.length:=by rw[tX,pe];rfl
theorem Gj (E:List Ent) (T:List Tb):spL E T=spX (nuX 0 E) E.length (nuX 0 T) T.length:=by rw[spL,spX,oB_x,pB_x,tB_x]
structure Up {α:Type} (X:List (Nat×α)) (n:Nat):Prop where
 lt:∀ x∈X,x.1<n
 up:X.Pairwise fun a b=>a.1<b.1
theorem xA {α:Type}:∀ (E:List α) (b:Nat),(∀ x∈nuX b E,b<=x.1/\x.1<b+E.length)/\(nuX b E).Pairwise fun a c=>a.1<c.1
 |[],_=>⟨fun x h=>(by cases h),List.Pairwise.nil⟩
 |y::t,b=>by
  obtain⟨h1,h2⟩:=xA t (b+1);refine⟨fun x hx=>?_,List.pairwise_cons.2 ⟨fun x hx=>?_,h2⟩⟩
  ·rcases List.mem_cons.1 hx with rfl|hx
   ·simp
   ·have:=h1 x hx;simp only[List.length_cons];omega
  ·have:=h1 x hx;simp only;omega
theorem Up.nu {α:Type} (E:List α):Up (nuX 0 E) E.length:=⟨fun x hx=>by have:=(xA E 0).1 x hx;omega,(xA E 0).2⟩
def iV (X:XE) (k:Int):Ent:=(lkM (enX X) k).getD eZ
theorem uD {X:XE} (h:X.Pairwise fun a b=>a.1<b.1):∀ x∈X,lkM (enX X) (x.1:Int)=some x.2:=by
 induction X with
 |nil=>intro x hx;cases hx
 |cons y t ih=>
  intro x hx;obtain⟨h1,h2⟩:=List.pairwise_cons.1 h;show (if ((y.1:Nat):Int)=x.1 then some y.2 else lkM (enX t) x.1)=_
  rcases List.mem_cons.1 hx with rfl|hx
  ·rw[if_pos rfl]
  ·have:=h1 x hx
   rw[if_neg (by omega)];exact ih h2 x hx
theorem Ag {X:XE} (h:X.Pairwise fun a b=>a.1<b.1) {x:Nat×Ent} (hx:x∈X):iV X x.1=x.2:=by rw[iV,uD h x hx];rfl
theorem kJ {κ α β:Type} {X:List (Nat×β)} (f:Nat×β->κ×α) (h:X.Pairwise fun a b=>a.1<b.1):∀ x∈X,bnM (X.map fun x=>(x.1,f x)) x.1=some (f x):=by
 induction X with
 |nil=>intro x hx;cases hx
 |cons y t ih=>
  intro x hx;obtain⟨h1,h2⟩:=List.pairwise_cons.1 h;show (if y.1=x.1 then some (f y) else bnM (t.map fun x=>(x.1,f x)) x.1)=_
  rcases List.mem_cons.1 hx with rfl|hx
  ·rw[if_pos rfl]
  ·have:=h1 x hx
   rw[if_neg (by omega)];exact ih h2 x hx
def fF (X:XE) (num:Int) (e:Ent):Bool:= !decide (e.tab=num)&&(!decide (e.par<0)&&decide ((iV X e.par).tab=num))
def kT (X:XE) (num:Int) (y:Nat×Tb):Bool:= !decide (1+(y.1:Int)=num)&&y.2.r.any fun r=>decide ((iV X r).tab=num)
def kU (X:XE) (Y:YT) (num:Int):Bool:=X.any (fun x=>fF X num x.2)||Y.any (kT X num)
def oO {α:Type} (s:List Nat):List (Nat×α)->Nat
 |[]=>0
 |x::t=>(if x.1∈s then 0 else 1)+oO s t
theorem yZ {α:Type} (s:List Nat) (a:Nat):∀ X:List (Nat×α),oO (s++[a]) X<=oO s X
 |[]=>Nat.le_refl _
 |y::t=>by
  have ih:=yZ s a t;simp only[oO];by_cases h:y.1∈s
  ·rw[if_pos h,if_pos (List.mem_append_left _ h)];omega
  ·rw[if_neg h]
   split<;>omega
theorem jy {α:Type} {s:List Nat} {x:Nat×α} (hs:x.1∉s):∀ {X:List (Nat×α)},x∈X->oO (s++[x.1]) X<oO s X
 |y::t,hx=>by
  have mt:=yZ s x.1 t;simp only[oO]
  rcases List.mem_cons.1 hx with rfl|hx
  ·rw[if_neg hs,if_pos (by simp)];omega
  ·have ih:=jy hs hx
   by_cases h:y.1∈s
   ·rw[if_pos h,if_pos (List.mem_append_left _ h)];omega
   ·rw[if_neg h]
    split<;>omega
section
variable {P:Program} {b:Nat} {ops:Array Oper} {d:Bool} {acc:List Row} {os:List Oper} {env:List V} {n:Nat} {L:Hp} {R:Post}
variable {dst:Option Tmp} {x ix:Operand} {tx kt et:TypeId} {t:TypeId} {pos:String} {af:Array Edge} {gd:Option (Nat×Bool)} {i:Nat}
theorem RegX.xLk {X:XE} {nx:Nat} {z:Int} {r0:Bool} (e:Ent) (hx:ev env x=.s (.map (some i))) (hix:ev env ix=.s (.int .i64 z)) (hl:lk L i=some {oX X nx with ro:=r0}) (hty:P.underlying tx=some (.map kt et)) (hd:P.underlying kt=some (.int .i64)) (h0:fN P et true=some (cf eZ)) (hr:iV X z=e)
 (hwt:aI ops env ⟨dst,.lookup tx x ix false,t,pos,af,gd⟩=some true)
 (kk:RegX P ops d (av d ⟨dst,.lookup tx x ix false,t,pos,af,gd⟩ [i] [] acc) os (aB env dst (.agg (cf e))) n L R):
 RegX P ops d acc (⟨dst,.lookup tx x ix false,t,pos,af,gd⟩::os) env n L R:=by
 refine RegX.lk1 (K:=kdI) (k:=z) (lkM (enX X) z) hx hix hl bq (fun h=>by cases h) hty hd h0 rfl hwt ?_
 have h:orC cf (cf eZ) (lkM (enX X) z)=cf e:=by rw[<-hr,iV];cases lkM (enX X) z<;>rfl
 rw[h];exact kk
end
theorem Up.eq {α:Type} {X:List (Nat×α)} {n:Nat} (h:Up X n) {x y:Nat×α} (hx:x∈X) (hy:y∈X) (e:x.1=y.1):x.2=y.2:=by
 have h1:=kJ (fun x:Nat×α=>((),x.2)) h.up x hx;have h2:=kJ (fun x:Nat×α=>((),x.2)) h.up y hy;rw[e,h2] at h1;exact (Prod.mk.inj (Option.some.inj h1)).2.symm
theorem Up.all {α:Type} {X:List (Nat×α)} {n:Nat} (h:Up X n) {f:Nat×α->Bool} {s:List Nat} (hs:∀ x∈X,x.1∈s->f x=false) {x:Nat×α} (hx:x∈X) (hf:f x=false):∀ y∈X,y.1∈s++[x.1]->f y=false:=fun y hy hm=>by
 rcases List.mem_append.1 hm with e|e
 ·exact hs y hy e
 ·have e:=List.mem_singleton.1 e
  have e2:=h.eq hy hx e;obtain⟨a,b⟩:=y;simp only at e e2;subst e;subst e2;exact hf
theorem EA (X:XE) (nx:Nat) (Y:YT) (nt:Nat) (num:Int) (hX:Up X nx) (hY:Up Y nt) (hr:∀ y∈Y,y.2.r.length<=1000000) (u:Bool) (hu:kU X Y num=u):FC Tryz.prog 78 [.s (.ptr (some (0,0))),nI num] 4 (spX X nx Y nt) (bV u) 4 (spX X nx Y nt):=by
 have ckX:∀ e∈enX X,e.1<nx:=fun e he=>by obtain⟨x,hx,rfl⟩:=List.mem_map.1 he;exact hX.lt x hx
 have ckY:∀ e∈enT Y,e.1<nt:=fun e he=>by obtain⟨x,hx,rfl⟩:=List.mem_map.1 he;exact hY.lt x hx
 have tru:∀ x∈X,fF X num x.2=true->u=true:=fun x hx h=>by rw[<-hu,kU,List.any_eq_true.2 ⟨x,hx,h⟩];rfl
 have trt:∀ y∈Y,kT X num y=true->u=true:=fun x hx h=>by rw[<-hu,kU,List.any_eq_true.2 ⟨x,hx,h⟩];simp
 refine FC.walk (by kernel_rfl) Tryz.func78 rfl rfl ?_
 repeat'(first|exact y0|refine y1 ?_|refine y2 ?_ ?_|(refine y8 ?_ ?_<;>intro h<;>try exact y6)|refine RegX.rgM (K:=kdI) (agg:=true) (w:=14) (c:=cf) (E:=enX X) (ck:=nx) rfl rfl bq (by decide) rfl rfl ?_|refine y3 ?_|refine y7 ?_ ?_|refine y4 ?_|(refine y9 ?_ ?_<;>intro h)|exact y5|fail)
 refine Ex.inv (σ:=List Nat) (fun _=>[]) (fun s=>[(0,some (bn 1 2 3 (nx:Nat) (1+(nt:Int)))),(1,some (oX X nx)),(2,some (pX X nx)),(3,some (tX Y nt)),(4,some (itB 1 s nx))]) (fun s=>∀ x∈X,x.1∈s->fF X num x.2=false) (fun s=>oO s X) [] rfl (fun _=>rfl) (fun x _ h=>by cases h) trivial ⟨rfl,rfl,rfl,rfl,rfl,trivial⟩ ?_;intro s hs
 repeat'(first|(refine Ex.nxt (K:=kdI) (agg:=true) (w:=14) (c:=cf) (E:=enX X) (ck:=nx) (i:=1) (r:=4) (s:=s) rfl rfl rfl rfl (by decide) bq (fun h=>by cases h) ckX (fun hall=>?_) (fun e he hns=>?_))|exact y0|refine y1 ?_|refine y2 ?_ ?_|(refine y8 ?_ ?_<;>intro h<;>try exact y6)|refine RegX.rgM (K:=kdI) (agg:=true) (w:=2) (c:=eF) (E:=enT Y) (ck:=nt) rfl rfl bA (by decide) rfl rfl ?_|refine y3 ?_|refine y7 ?_ ?_|refine y4 ?_|(refine y9 ?_ ?_<;>intro h)|exact y5|fail)
 ·have hxs:∀ x∈X,fF X num x.2=false:=fun x hx=>hs x hx (hall _ (List.mem_map.2 ⟨x,hx,rfl⟩))
  clear hs hall;refine Ex.inv (σ:=List Nat) (fun _=>[]) (fun s=>[(0,some (bn 1 2 3 (nx:Nat) (1+(nt:Int)))),(1,some (oX X nx)),(2,some (pX X nx)),(3,some (tX Y nt)),(5,some (itB 3 s nt))]) (fun s=>∀ y∈Y,y.1∈s->kT X num y=false) (fun s=>oO s Y) [] rfl (fun _=>rfl) (fun x _ h=>by cases h) trivial ⟨rfl,rfl,rfl,rfl,rfl,trivial⟩ ?_;intro s hs
  repeat'(first|(refine Ex.nxt (K:=kdI) (agg:=true) (w:=2) (c:=eF) (E:=enT Y) (ck:=nt) (i:=3) (r:=5) (s:=s) rfl rfl rfl rfl (by decide) bA (fun h=>by cases h) ckY (fun hall=>?_) (fun e he hns=>?_))|exact y0|refine y1 ?_|refine y2 ?_ ?_|(refine y8 ?_ ?_<;>intro h<;>try exact y6)|refine y3 ?_|refine y7 ?_ ?_|refine y4 ?_|(refine y9 ?_ ?_<;>intro h)|exact y5|fail)
  ·have:u=false:=by
    rw[<-hu,kU,Bool.or_eq_false_iff];exact⟨List.any_eq_false.2 fun x hx=>by rw[hxs x hx];decide,List.any_eq_false.2 fun y hy=>by rw[hs y hy (hall _ (List.mem_map.2 ⟨y,hy,rfl⟩))];decide⟩
   subst this;exact⟨.inl rfl,_,[],VLe.refl _,EndOK.by rfl ⟨rfl,rfl,rfl,rfl,trivial⟩ rfl rfl rfl rfl⟩
  ·obtain⟨y,hy,rfl⟩:=List.mem_map.1 he
   have hb:=kJ (fun y:Nat×Tb=>(1+(y.1:Int),y.2)) hY.up y hy;have hyl:=hr y hy;have hns:y.1∉s:=hns
   repeat'(first|exact y0|refine y1 ?_|refine y2 ?_ ?_|(refine y8 ?_ ?_<;>intro h<;>try exact y6)|refine RegX.enM (K:=kdI) (agg:=true) (w:=2) (c:=eF) (E:=enT Y) (ck:=nt) (s:=s) (z:=y.1) (y:=(1+(y.1:Int),y.2)) rfl rfl rfl bA (fun h=>by cases h) hb rfl ?_|refine y3 ?_|refine y7 ?_ ?_|refine y4 ?_|(refine y9 ?_ ?_<;>intro h)|exact y5|fail)
   ·refine LoopR.same (s++[y.1]) (hY.all hs hy (by unfold kT;rw[decide_eq_true (by assumption)];rfl)) (jy (x:=y) hns hy) rfl trivial ⟨rfl,rfl,rfl,rfl,rfl,trivial⟩ rfl rfl (by decide)
   ·have hne: ¬1+(y.1:Int)=num:=h
    refine Ex.inv (σ:=Nat) (fun j=>[(59,nI j)]) (fun _=>[(0,some (bn 1 2 3 (nx:Nat) (1+(nt:Int)))),(1,some (oX X nx)),(2,some (pX X nx)),(3,some (tX Y nt)),(5,some (itB 3 (s++[y.1]) nt))]) (fun j=>j<=y.2.r.length/\∀ i,i<j->(iV X (y.2.r.getD i 0)).tab≠num) (fun j=>y.2.r.length-j) 0 rfl (fun _=>rfl) ⟨Nat.zero_le _,fun i hi=>absurd hi (Nat.not_lt_zero _)⟩ ⟨VLe.refl _,trivial⟩ ⟨rfl,rfl,rfl,rfl,rfl,trivial⟩ ?_;rintro j ⟨j1,j2⟩
    repeat'(first|exact y0|refine y1 ?_|refine y2 ?_ ?_|(refine y8 ?_ ?_<;>intro h<;>try exact y6)|refine RegX.xLk _ rfl rfl rfl rfl rfl rfl rfl rfl ?_|refine y3 ?_|refine y7 ?_ ?_|refine y4 ?_|(refine y9 ?_ ?_<;>intro h)|exact y5|fail)
    all_goals try first
     |exact aa (by omega) (by omega)
    ·rename_i hj
     have hj:(j:Int)<((y.2.r.length:Nat):Int):=hj;have h:(iV X (y.2.r.getD j 0)).tab=num:=h
     obtain rfl:=trt y hy (by
      unfold kT
      rw[decide_eq_false hne,List.any_eq_true.2 ⟨y.2.r.getD j 0,by rw[List.getD_eq_getElem?_getD,List.getElem?_eq_getElem (by omega)];exact List.getElem_mem _,decide_eq_true h⟩];rfl)
     exact⟨.inl rfl,_,[],VLe.refl _,EndOK.by rfl ⟨rfl,rfl,rfl,rfl,trivial⟩ rfl rfl rfl rfl⟩
    ·rename_i hj
     have hj:(j:Int)<((y.2.r.length:Nat):Int):=hj;have h: ¬(iV X (y.2.r.getD j 0)).tab=num:=h;refine LoopR.same (j+1) ⟨by omega,fun i hi=>?_⟩ (by omega) rfl ⟨VLe.refl _,trivial⟩ ⟨rfl,rfl,rfl,rfl,rfl,trivial⟩ rfl rfl (by decide)
     rcases Nat.lt_or_ge i j with e|e
     ·exact j2 i e
     ·rw[show i=j by omega];exact h
    ·have hj: ¬(j:Int)<((y.2.r.length:Nat):Int):=h
     refine LoopR.same (s++[y.1]) (hY.all hs hy ?_) (jy (x:=y) hns hy) rfl trivial ⟨rfl,rfl,rfl,rfl,rfl,trivial⟩ rfl rfl (by decide);unfold kT;rw[decide_eq_false hne,List.any_eq_false.2 fun z hz=>?_]
     ·rfl
     ·obtain⟨i,hi,rfl⟩:=List.mem_iff_getElem.1 hz
      have:=j2 i (by omega);rw[List.getD_eq_getElem?_getD,List.getElem?_eq_getElem hi] at this
      simpa using this
 ·obtain⟨x,hx,rfl⟩:=List.mem_map.1 he
  have hb:=kJ (fun x:Nat×Ent=>((x.1:Int),x.2)) hX.up x hx;have hns:x.1∉s:=hns
  repeat'(first|exact y0|refine y1 ?_|refine y2 ?_ ?_|(refine y8 ?_ ?_<;>intro h<;>try exact y6)|refine RegX.enM (K:=kdI) (agg:=true) (w:=14) (c:=cf) (E:=enX X) (ck:=nx) (s:=s) (z:=x.1) (y:=((x.1:Int),x.2)) rfl rfl rfl bq (fun h=>by cases h) hb rfl ?_|refine RegX.xLk _ rfl rfl rfl rfl rfl rfl rfl rfl ?_|refine y3 ?_|refine y7 ?_ ?_|refine y4 ?_|(refine y9 ?_ ?_<;>intro h)|exact y5|fail)
  ·have h:x.2.tab=num:=h
   exact LoopR.same (s++[x.1]) (hX.all hs hx (f:=fun x=>fF X num x.2) (by unfold fF;rw[decide_eq_true h];rfl)) (jy (x:=x) hns hx) rfl trivial ⟨rfl,rfl,rfl,rfl,rfl,trivial⟩ rfl rfl (by decide)
  ·have h:x.2.par<0:=h
   exact LoopR.same (s++[x.1]) (hX.all hs hx (f:=fun x=>fF X num x.2) (by unfold fF;rw[decide_eq_true h];simp)) (jy (x:=x) hns hx) rfl trivial ⟨rfl,rfl,rfl,rfl,rfl,trivial⟩ rfl rfl (by decide)
  ·rename_i h1 h2
   have h1: ¬x.2.tab=num:=h1;have h2: ¬x.2.par<0:=h2;have h:(iV X x.2.par).tab=num:=h;obtain rfl:=tru x hx (by unfold fF;rw[decide_eq_false h1,decide_eq_false h2,decide_eq_true h];rfl);exact⟨.inl rfl,_,[],VLe.refl _,EndOK.by rfl ⟨rfl,rfl,rfl,rfl,trivial⟩ rfl rfl rfl rfl⟩
  ·have h: ¬(iV X x.2.par).tab=num:=h
   exact LoopR.same (s++[x.1]) (hX.all hs hx (f:=fun x=>fF X num x.2) (by unfold fF;rw[decide_eq_false h];simp)) (jy (x:=x) hns hx) rfl trivial ⟨rfl,rfl,rfl,rfl,rfl,trivial⟩ rfl rfl (by decide)
end Go.Proofs.YtegjgpldfgjoiaaGreatDoor
namespace Go.Proofs.YtegjgpldfgjoiaaGreatDoor
open Go Ab Go.RowKit Go.Maps Go.Sort Go.Shelf
set_option maxRecDepth 100000
set_option maxHeartbeats 4000000
def fW (X:XE):List (Int×Int):=X.map fun x=>((x.1:Int),x.2.par)
def ii (X:XE):List Int:=X.map fun x=>(x.1:Int)
theorem lb (X:XE):(fW X).map (·.1)=ii X:=by simp[fW,ii]
theorem Up.len {α:Type} {X:List (Nat×α)} {n:Nat} (h:Up X n):X.length<=n:=by
 have key:∀ (X:List (Nat×α)) (b:Nat),b<=n->(∀ x∈X,b<=x.1/\x.1<n)->(X.Pairwise fun a c=>a.1<c.1)->X.length+b<=n:=by
  intro X
  induction X with
  |nil=>intro b hb _ _;simpa using hb
  |cons y t ih=>
   intro b hb h1 h2;obtain⟨h3,h4⟩:=List.pairwise_cons.1 h2;have hy:=h1 y (by simp);have:=ih (y.1+1) (by omega) (fun x hx=>⟨h3 x hx,(h1 x (List.mem_cons_of_mem _ hx)).2⟩) h4;simp only[List.length_cons];omega
 have:=key X 0 (Nat.zero_le _) (fun x hx=>⟨Nat.zero_le _,h.lt x hx⟩) h.up;omega
theorem iB {X:XE} (h:X.Pairwise fun a b=>a.1<b.1):((fW X).map (·.1)).Pairwise (·<·):=by
 rw[lb];exact List.pairwise_map.2 (h.imp fun h=>by omega)
theorem mR {φ:Ph}:∀ (X:XE) (M:List MapEntry),EntsR φ kdI true cf (enX X) M->(∀ x∈X,x.1<1000000)->All2 (Gb dF) (fW X) M/\M.map (·.born)=X.map (·.1)
 |[],[],_,_=>⟨trivial,rfl⟩
 |[],_::_,h,_=>h.elim
 |x::t,[],h,_=>h.elim
 |x::t,m::M,⟨⟨h1,h2,h3⟩,h4⟩,hl=>by
  obtain⟨i1,i2⟩:=mR t M h4 (fun y hy=>hl y (List.mem_cons_of_mem _ hy));have:=hl x (by simp);refine⟨⟨⟨h1,by simp only;omega,vc h3⟩,i1⟩,?_⟩;rw[List.map_cons,i2,h2];rfl
theorem Gq {φ:Ph} {w:World} {b:Nat} {X:XE} {M:List MapEntry} {nx:Nat} (hX:Up X nx) (hn:nx<=1000000) (hm:w.heap[b]? =some (.map M.toArray nx)) (hM:EntsR φ kdI true cf (enX X) M):w.ownsMap Tryz.prog 3 dF b X.length (cV (fW X)):=by
 have hxl:=hX.len;obtain⟨r1,r2⟩:=mR X M hM (fun x hx=>by have:=hX.lt x hx;omega);obtain⟨g1,g2,g3⟩:=od r1
 have hl:M.length=X.length:=by have:=r1.len;rw[fW,List.length_map] at this;exact this
 refine⟨M.toArray,nx,hm,⟨?_,⟨?_,?_,?_⟩,by simpa using g3⟩,by simp[hl],by simp only[cV,<-g1]⟩
 ·simp only[List.size_toArray];unfold maxLen;omega
 ·intro x hx
  have:x.born∈M.map (·.born):=List.mem_map.2 ⟨x,by simpa using hx,rfl⟩;rw[r2] at this;obtain⟨y,hy,e⟩:=List.mem_map.1 this;have:=hX.lt y hy;omega
 ·show (M.toArray.toList.map (·.born)).Nodup
  rw[show M.toArray.toList=M by simp,r2];exact List.pairwise_map.2 (hX.up.imp fun h=>by omega)
 ·show (M.toArray.toList.map (·.key)).Nodup
  rw[show M.toArray.toList=M by simp,g2];refine List.pairwise_map.2 ((List.pairwise_map.1 (iB hX.up)).imp fun h e=>?_);have:_=_:=e;simp only[Value.int.injEq,true_and] at this;omega
theorem EJ {φ:Ph} {w:World} {X:XE} {nx:Nat} {Y:YT} {nt:Nat} (hX:Up X nx) (hn:nx<=1000000) (hg:Ab.Good φ (spX X nx Y nt) w) {b:Nat×Nat} (hb:φ 0=some b):
 ∃ bm,w.cell? ⟨b.1,0+b.2,none⟩=some (.map (some bm))/\b.1<w.heap.size/\w.ownsMap Tryz.prog 3 dF bm X.length (cV (fW X)):=by
 obtain⟨b',hb',hat⟩:=hg.hr 0 (bn 1 2 3 (nx:Nat) (1+(nt:Int))) rfl;rw[hb] at hb';cases hb';have hlt:=hat.lt;obtain⟨pre,xs,rest,fr,h1,hp,h2,_⟩:=hat;simp only[bC] at h1;obtain⟨y,hy,hyr⟩:=h2.get (i:=0) rfl;have hyr:=Sr.mono (Bl.ph_le_self _ φ) hyr;obtain⟨q,hq,hq2,rfl⟩:=hyr;obtain⟨q',hq',hatm⟩:=hg.hr 1 (oX X nx) rfl;rw[hq] at hq';cases hq';obtain⟨M,hm,hM⟩:=ge (r:=false) bq hatm hq2;refine⟨q.1,?_,hlt,Gq hX hn hm hM⟩;simp only[World.cell?,h1]
 have hoc:0<xs.length:=by
  rcases Nat.lt_or_ge 0 xs.length with e|e
  ·exact e
  ·rw[List.getElem?_eq_none (by omega)] at hy;cases hy
 simp only[Option.isSome_none,Bool.false_eq_true,if_false,List.getElem?_toArray];rw[List.getElem?_append_right (by omega),show 0+b.2-pre.length=0 by omega,List.getElem?_append_left hoc];exact hy
theorem B7 {X:XE} {nx:Nat} {Y:YT} {nt:Nat} (i:Nat) (hi:4<=i):lk (spX X nx Y nt) i=none:=by
 unfold spX;rw[ak,if_neg (by omega),ak,if_neg (by omega),ak,if_neg (by omega),ak,if_neg (by omega)];rfl
theorem yC (X:XE) (nx:Nat) (Y:YT) (nt:Nat) (hX:Up X nx) (hn:nx<=1000000):FC Tryz.prog 26 [.s (.ptr (some (0,0)))] 4 (spX X nx Y nt) (.s (.row 4 5 (ii X).length)) 6 (put (spX X nx Y nt) 4 (unB 4 (ii X))):=by
 refine⟨by kernel_rfl,?_⟩;have hk:=lb X;have hxl:=hX.len
 refine SC.rowI (P:=Tryz.prog) (f:=26) (args:=[.s (.ptr (some (0,0)))]) (n:=4) (L:=spX X nx Y nt) (ii X) B7 fun φ xs w ha hg=>?_
 match xs,ha with
 |[x],⟨h1,_⟩=>
  obtain⟨b,hb,hx⟩:=h1;subst hx;obtain⟨bm,g1,g2,g3⟩:=EJ hX hn hg hb
  have hsz:Maps.size (cV (fW X))=X.length:=by rw[io];simp[fW]
  refine Calls.mono (lw b.1 (0+b.2) bm X.length (cV (fW X)) dF w g1 g3 (by rw[hsz];unfold maxLen;omega) (by rw[hsz];omega)) ?_;rintro e w' ⟨v,ss,rfl,hC,hrow,hn,hbw⟩
  have hperm:ss.Perm (ii X):=by
   refine hC.trans ?_;simp only[cV,intKeys];refine ((WideShapes.sorted_perm ((fW X).map fX)).map _).trans ?_;rw[List.map_map,<-hk];exact List.Perm.refl _
  have hs:=nX hperm (by rw[<-hk];exact (iB hX.up).imp fun h=>by omega)
  have hlen:(ii X).length=ss.length:=by rw[<-hs];simp
  refine⟨v,rfl,by rw[hlen,<-hs];exact hrow,?_,hbw⟩;rw[hn,<-hs];constructor
  ·rintro rfl;simp
  ·intro e;exact List.eq_nil_of_length_eq_zero (by rw[<-hlen,<-hs,e];rfl)
theorem deX {F B:XE} {x:Nat×Ent} (h:∀ f∈F,f.1≠x.1):deM (enX (F++x::B)) (x.1:Int)=enX (F++B):=by
 induction F with
 |nil=>show (if ((x.1:Nat):Int)=x.1 then enX B else _)=_;rw[if_pos rfl];rfl
 |cons f t ih=>
  show (if ((f.1:Nat):Int)=x.1 then _ else (f.1,(f.1:Int),f.2)::deM (enX (t++x::B)) (x.1:Int))=_;have:=h f (by simp);rw[if_neg (by omega),ih fun g hg=>h g (List.mem_cons_of_mem _ hg)];rfl
theorem deQ {F B:XE} {x:Nat×Ent} (h:∀ f∈F,f.2.path≠x.2.path):deM (enQ (F++x::B)) x.2.path=enQ (F++B)/\lkM (enQ (F++x::B)) x.2.path=some (x.1:Int):=by
 induction F with
 |nil=>
  refine⟨?_,?_⟩
  ·show (if x.2.path=x.2.path then enQ B else _)=_;rw[if_pos rfl];rfl
  ·show (if x.2.path=x.2.path then some (x.1:Int) else _)=_;rw[if_pos rfl]
 |cons f t ih=>
  have hf:=h f (by simp)
  obtain⟨i1,i2⟩:=ih fun g hg=>h g (List.mem_cons_of_mem _ hg)
  refine⟨?_,?_⟩
  ·show (if f.2.path=x.2.path then _ else (f.1,f.2.path,(f.1:Int))::deM (enQ (t++x::B)) x.2.path)=_
   rw[if_neg hf,i1];rfl
  ·show (if f.2.path=x.2.path then _ else lkM (enQ (t++x::B)) x.2.path)=_
   rw[if_neg hf,i2]
def oD (z:Int) (y:Nat×Tb):Bool:= !decide (1+(y.1:Int)=z)
theorem deT {Y:YT} {z:Int} (h:Y.Pairwise fun a b=>a.1<b.1):deM (enT Y) z=enT (Y.filter (oD z)):=by
 induction Y with
 |nil=>rfl
 |cons y t ih=>
  obtain⟨h1,h2⟩:=List.pairwise_cons.1 h;show (if 1+((y.1:Nat):Int)=z then enT t else (y.1,1+(y.1:Int),y.2)::deM (enT t) z)=_;rw[List.filter_cons];by_cases e:1+((y.1:Nat):Int)=z
  ·rw[if_pos e,if_neg (by simp[oD,e])]
   congr 1;symm
   refine List.filter_eq_self.2 fun x hx=>?_
   have:=h1 x hx;simp only[oD,Bool.not_eq_true',decide_eq_false_iff_not];omega
  ·rw[if_neg e,if_pos (by simp[oD,e]),ih h2];rfl
def fK (z:Int) (x:Nat×Ent):Bool:= !decide (x.2.tab=z)
theorem Up.part {α:Type} {A B:List (Nat×α)} {n:Nat} (h:Up (A++B) n) (p:Nat×α->Bool):Up (A.filter p++B) n:=by
 refine⟨fun x hx=>?_,?_⟩
 ·rcases List.mem_append.1 hx with e|e
  ·exact h.lt x (List.mem_append_left _ (List.mem_filter.1 e).1)
  ·exact h.lt x (List.mem_append_right _ e)
 ·obtain⟨h1,h2,h3⟩:=List.pairwise_append.1 h.up
  exact List.pairwise_append.2 ⟨h1.filter _,h2,fun a ha b hb=>h3 a (List.mem_filter.1 ha).1 b hb⟩
def PNo (X:XE):Prop:=X.Pairwise fun a b=>a.2.path≠b.2.path
theorem EB (X:XE) (nx:Nat) (Y:YT) (nt:Nat) (z:Int) (h:lkM (enT Y) z=none):FC Tryz.prog 40 [.s (.ptr (some (0,0))),nI z] 4 (spX X nx Y nt) (.s (.int .i64 6)) 4 (spX X nx Y nt):=by
 refine FC.walk (by kernel_rfl) Tryz.func40 rfl rfl ?_
 repeat'(first|exact y0|refine y1 ?_|refine y2 ?_ ?_|(refine y8 ?_ ?_<;>intro h<;>try exact y6)|refine RegX.lkT (K:=kdI) (agg:=true) (w:=2) (c:=eF) (E:=enT Y) (ck:=nt) (k:=z) none rfl rfl rfl bA (fun h=>by cases h) rfl rfl rfl h rfl ?_|refine y3 ?_|refine y7 ?_ ?_|refine y4 ?_|(refine y9 ?_ ?_<;>intro h)|exact y5|fail)
 all_goals exact⟨.inl rfl,_,[],VLe.refl _,EndOK.by rfl ⟨rfl,rfl,rfl,rfl,trivial⟩ rfl rfl rfl rfl⟩
theorem BW (X:XE) (nx:Nat) (Y:YT) (nt:Nat) (z:Int) (tb:Tb) (hX:Up X nx) (hn:nx<=1000000) (hP:PNo X) (hY:Up Y nt) (hr:∀ y∈Y,y.2.r.length<=1000000) (hk:lkM (enT Y) z=some tb) (hu:kU X Y z=false):FC Tryz.prog 40 [.s (.ptr (some (0,0))),nI z] 4 (spX X nx Y nt) (.s (.int .i64 0)) 4 (spX (X.filter (fK z)) nx (Y.filter (oD z)) nt):=by
 have hc:=EA X nx Y nt z hX hY hr false hu;have ho:=yC X nx Y nt hX hn;have hxl:=hX.len
 have hil:(ii X).length=X.length:=by simp[ii]
 refine FC.walk (by kernel_rfl) Tryz.func40 rfl rfl ?_
 repeat'(first|exact y0|refine y1 ?_|refine y2 ?_ ?_|(refine y8 ?_ ?_<;>intro h<;>try exact y6)|(refine wC ?_;first|(refine wF 78 ?_;refine CallG.me [0,1,2,3] hc rfl rfl ⟨VLe.refl _,VLe.refl _,trivial⟩ ⟨⟨rfl,_,rfl,rfl,fun h=>h⟩,⟨rfl,_,rfl,rfl,fun h=>h⟩,⟨rfl,_,rfl,rfl,fun h=>h⟩,⟨rfl,_,rfl,rfl,fun h=>h⟩,trivial⟩ rfl rfl rfl ?_)|(refine wF 26 ?_;refine CallG.mo [0,1,2,3] ho rfl rfl rfl rfl rfl ⟨VLe.refl _,trivial⟩ ⟨⟨rfl,_,rfl,rfl,fun h=>h⟩,⟨rfl,_,rfl,rfl,fun h=>h⟩,⟨rfl,_,rfl,rfl,fun h=>h⟩,⟨rfl,_,rfl,rfl,fun h=>h⟩,trivial⟩ rfl rfl (wr:=[(0,some (bn 1 2 3 (nx:Nat) (1+(nt:Int)))),(1,some (oX X nx)),(2,some (pX X nx)),(3,some (tX Y nt)),(5,unB 5 (ii X))]) (by show [_,_,_,_,_]=_;rw[ah];rfl) ?_))|refine RegX.lkT (K:=kdI) (agg:=true) (w:=2) (c:=eF) (E:=enT Y) (ck:=nt) (k:=z) (some tb) rfl rfl rfl bA (fun h=>by cases h) rfl rfl rfl hk rfl ?_|refine y3 ?_|refine y7 ?_ ?_|refine y4 ?_|(refine y9 ?_ ?_<;>intro h)|exact y5|fail)
 refine Ex.irow 25 5 (ii X) rfl rfl rfl rfl rfl ?_;refine Ex.inv (σ:=XE×XE) (fun q=>[(27,nI q.1.length)]) (fun q=>[(0,some (bn 1 2 3 (nx:Nat) (1+(nt:Int)))),(1,some (oX (q.1.filter (fK z)++q.2) nx)),(2,some (pX (q.1.filter (fK z)++q.2) nx)),(3,some (tX Y nt))]) (fun q=>q.1++q.2=X) (fun q=>q.2.length) ([],X) rfl (fun _=>rfl) rfl ⟨VLe.refl _,trivial⟩ ⟨rfl,rfl,rfl,rfl,trivial⟩ ?_;rintro⟨A,B⟩ hAB;simp only at hAB |-
 have hxa:A.length+B.length=X.length:=by rw[<-hAB,List.length_append]
 cases B with
 |nil=>
  rw[List.append_nil] at hAB;subst hAB;simp only[List.append_nil] at hxa |-;have hde:=deT (z:=z) hY.up
  repeat'(first|exact y0|refine y1 ?_|refine y2 ?_ ?_|(refine y8 ?_ ?_<;>intro h<;>try(exact y6))|refine RegX.dlM (K:=kdI) (agg:=true) (w:=2) (c:=eF) (E:=enT Y) (ck:=nt) (k:=z) (x0:=tb) _ rfl rfl rfl bA rfl rfl hk hde rfl ?_|refine y3 ?_|refine y7 ?_ ?_|refine y4 ?_|(refine y9 ?_ ?_<;>intro h)|exact y5|fail)
  all_goals exact⟨.inl rfl,_,[],VLe.refl _,EndOK.by rfl ⟨rfl,rfl,rfl,rfl,trivial⟩ rfl rfl rfl rfl⟩
 |cons x B=>
  simp only[List.length_cons] at hxa
  have hup:Up (A++x::B) nx:=by rw[hAB];exact hX
  have hU:=hup.part (fK z)
  have hno:PNo (A++x::B):=by rw[hAB];exact hP
  have hid:(ii X).getD A.length 0=(x.1:Int):=by rw[<-hAB,ii];simp
  have hgx:iV (A.filter (fK z)++x::B) x.1=x.2:=Ag hU.up (by simp)
  have hF1:∀ f∈A.filter (fK z),f.1≠x.1:=fun f hf=>by
   have:=(List.pairwise_append.1 hup.up).2.2 f (List.mem_filter.1 hf).1 x (by simp);omega
  have hF2:∀ f∈A.filter (fK z),f.2.path≠x.2.path:=fun f hf=>(List.pairwise_append.1 hno).2.2 f (List.mem_filter.1 hf).1 x (by simp)
  have hd1:=deX (B:=B) hF1;obtain⟨hd2,hd3⟩:=deQ (B:=B) hF2;have hl1:=uD hU.up x (by simp);by_cases hz:x.2.tab=z
  ·
   repeat'(first|exact y0|refine y1 ?_|refine y2 ?_ ?_|(refine y8 ?_ ?_<;>intro h<;>try(exact y6))|refine RegX.xLk x.2 rfl rfl rfl rfl rfl rfl (by rw[hid];exact hgx) rfl ?_|refine RegX.dlM (K:=kdI) (agg:=true) (w:=14) (c:=cf) (E:=enX (A.filter (fK z)++x::B)) (ck:=nx) (k:=(x.1:Int)) (x0:=x.2) _ rfl (by rw[hid];rfl) rfl bq rfl rfl hl1 hd1 rfl ?_|refine RegX.dlM (K:=kdS) (agg:=false) (w:=1) (c:=iC) (E:=enQ (A.filter (fK z)++x::B)) (ck:=nx) (k:=x.2.path) (x0:=(x.1:Int)) _ rfl rfl rfl (fun _=>rfl) rfl rfl hd3 hd2 rfl ?_|refine y3 ?_|refine y7 ?_ ?_|refine y4 ?_|(refine y9 ?_ ?_<;>intro h)|exact y5|fail)
   all_goals try first
    |exact aa (by omega) (by omega)
   have e:(A++[x]).filter (fK z)=A.filter (fK z):=by simp[List.filter_append,fK,hz]
   exact LoopR.same (A++[x],B) (by simp only[List.append_assoc,List.singleton_append];exact hAB) (by simp) rfl ⟨VLe.of_eq (congrArg nI (by simp)),trivial⟩ (by simp only[e];exact⟨rfl,rfl,rfl,rfl,trivial⟩) rfl rfl (by decide)
  ·
   repeat'(first|exact y0|refine y1 ?_|refine y2 ?_ ?_|(refine y8 ?_ ?_<;>intro h<;>try(exact y6))|refine RegX.xLk x.2 rfl rfl rfl rfl rfl rfl (by rw[hid];exact hgx) rfl ?_|refine y3 ?_|refine y7 ?_ ?_|refine y4 ?_|(refine y9 ?_ ?_<;>intro h)|exact y5|fail)
   all_goals try first
    |exact aa (by omega) (by omega)
   have e:(A++[x]).filter (fK z)++B=A.filter (fK z)++x::B:=by simp[List.filter_append,fK,hz]
   exact LoopR.same (A++[x],B) (by simp only[List.append_assoc,List.singleton_append];exact hAB) (by simp) rfl ⟨VLe.of_eq (congrArg nI (by simp)),trivial⟩ (by simp only[e];exact⟨rfl,rfl,rfl,rfl,trivial⟩) rfl rfl (by decide)
end Go.Proofs.YtegjgpldfgjoiaaGreatDoor
