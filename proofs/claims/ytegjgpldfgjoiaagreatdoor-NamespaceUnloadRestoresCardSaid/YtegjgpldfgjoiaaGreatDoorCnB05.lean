import Derived.Test.YtegjgpldfgjoiaaGreatDoorCnB04
import Derived.Laws.StructEq
import Derived.Laws.IdiomStrings
import Derived.Laws.Append
set_option linter.unusedSimpArgs false
set_option linter.unusedVariables false
namespace Go.Proofs.YtegjgpldfgjoiaaGreatDoor
namespace Ab
open Go
theorem tK (a b:List UInt8):(a==b)=decide (a=b):=by by_cases e:a=b<;>simp[e]
def wO:Tm->Tm->Bool
 | .v i,.v j=>Nat.beq i j
 | .c i,.c j=>Nat.beq i j
 | .bin o k a b,.bin o' k' a' b'=>match o==o'&&kEq k k' with|true=>(match wO a a' with|true=>wO b b'|false=>false)|false=>false
 |_,_=>false
theorem kH:∀ {a b:Tm},wO a b=true->a=b
 | .v i,.v j,h=>by rw[Nat.eq_of_beq_eq_true h]
 | .c i,.c j,h=>by rw[Nat.eq_of_beq_eq_true h]
 | .bin o k a b,.bin o' k' a' b',h=>by
   simp only[wO] at h;split at h
   ·rename_i h1
    simp only[Bool.and_eq_true] at h1;have e1:=eq_of_beq h1.1;have e2:=oU h1.2;split at h
    ·rename_i h2
     rw[e1,e2,kH h2,kH h]
    ·cases h
   ·cases h
 | .v _,.c _,h=>by cases h
 | .v _,.bin ..,h=>by cases h
 | .c _,.v _,h=>by cases h
 | .c _,.bin ..,h=>by cases h
 | .bin ..,.v _,h=>by cases h
 | .bin ..,.c _,h=>by cases h
def knO (x:S):Option (IntKind×Tm×Kn):=
 match x with
 | .opq k t K=>some (k,t,K)
 | .int k z=>match yL z with|some n=>some (k,.c n,⟨n,n,none⟩)|none=>none
 |_=>none
theorem vZ {z:Int} {n:Nat} (h:yL z=some n):z=(n:Int):=by cases z<;>simp[yL] at h;subst h;rfl
theorem zf {φ:Ph} {x:S} {v:Value} {k:IntKind} {t:Tm} {K:Kn} (h:knO x=some (k,t,K)) (hr:Sr φ x v):∃ z:Nat,t.ev φ=some z/\K.ok z/\v=.int k ((z:Nat):Int):=by
 unfold knO at h;split at h
 ·cases h;exact hr
 ·split at h
  ·rename_i hn
   cases h;have:=vZ hn;subst this;exact⟨_,rfl,⟨Nat.le_refl _,Nat.le_refl _,fun d r hc=>by cases hc⟩,hr⟩
  ·cases h
 ·cases h
def eqK (t t':Tm) (K K':Kn):Option Bool:=
 match Nat.blt K.hi K'.lo||Nat.blt K'.hi K.lo with
 |true=>some false
 |false=>
  match wO t t' with
  |true=>some true
  |false=>match Nat.beq K.lo K.hi&&Nat.beq K'.lo K'.hi&&Nat.beq K.lo K'.lo with|true=>some true|false=>none
theorem FK {φ:Ph} {t t':Tm} {K K':Kn} {b:Bool} {z z':Nat} (h:eqK t t' K K'=some b) (h1:t.ev φ=some z) (h2:t'.ev φ=some z') (k1:K.ok z) (k2:K'.ok z'):b=decide (z=z'):=by
 unfold eqK at h;have p1:=k1.1;have p2:=k1.2.1;have p3:=k2.1;have p4:=k2.2.1;split at h
 ·rename_i hc
  cases h;simp only[Bool.or_eq_true,al] at hc;symm;rw[decide_eq_false_iff_not];omega
 ·split at h
  ·rename_i hc
   cases h;have:=kH hc;subst this;rw[h1] at h2;cases h2;simp
  ·split at h
   ·rename_i hc
    cases h;simp only[Bool.and_eq_true] at hc;have a1:=Nat.eq_of_beq_eq_true hc.1.1;have a2:=Nat.eq_of_beq_eq_true hc.1.2;have a3:=Nat.eq_of_beq_eq_true hc.2;symm;rw[decide_eq_true_iff];omega
   ·cases h
def Df (x y:S):Option Bool:=
 match knO x,knO y with
 |some (k,t,K),some (k',t',K')=>match kEq k k' with|true=>eqK t t' K K'|false=>none
 |_,_=>none
def tn (P:Program) (t:TypeId) (x y:Option S):Option Bool:=
 match x,y with
 |some (.int k a),some (.int k' b)=>match P.underlying t with|some (.int _)=>(match kEq k k' with|true=>some (a==b)|false=>none)|_=>none
 |some (.bool a),some (.bool b)=>match gk P t with|true=>some (a==b)|false=>none
 |some (.str a),some (.str b)=>match P.underlying t with|some .string=>some (decide (a=b))|_=>none
 |some (.opq k a K),some y=>match P.underlying t with|some (.int _)=>Df (.opq k a K) y|_=>none
 |some x,some (.opq k a K)=>match P.underlying t with|some (.int _)=>Df x (.opq k a K)|_=>none
 |_,_=>none
theorem u_ {φ:Ph} {x y:S} {r:Bool} {u v:Value} (h:Df x y=some r) (hx:Sr φ x u) (hy:Sr φ y v):∃ k a b,u=.int k a/\v=.int k b/\(a==b)=r:=by
 unfold Df at h;split at h
 ·rename_i k t K k' t' K' h1 h2
  split at h
  ·rename_i hk
   have:=oU hk;subst this;obtain⟨z,e1,e2,e3⟩:=zf h1 hx;obtain⟨z',f1,f2,f3⟩:=zf h2 hy;refine⟨_,_,_,e3,f3,?_⟩;rw[FK h e1 f1 e2 f2];by_cases e:z=z'
   ·subst e;simp
   ·have: ¬((z:Int)=(z':Int)):=by omega
    simp[e,this]
  ·cases h
 ·cases h
def wP (P:Program) (xs ys:List S):List Field->Option Bool
 |[]=>some true
 |f::fs=>
  match f.name == "_" with
  |true=>none
  |false=>match tn P f.type xs[f.offset]? ys[f.offset]?,wP P xs ys fs with|some a,some b=>some (a&&b)|_,_=>none
theorem wQ {P:Program} {φ:Ph} {w:World} {t:TypeId} {x y:Option S} {r:Bool} (h:tn P t x y=some r) {xs ys:List Value} {o:Nat} {xl yl:List S} (hx:All2 (Sr φ) xl xs) (hy:All2 (Sr φ) yl ys)
 (ex:xl[o]? =x) (ey:yl[o]? =y) (d:Nat):∃ a b,(part t xs.toArray o).run P w=.ok a w/\(part t ys.toArray o).run P w=.ok b w/\(Op.equalIn (d+1) t a b).run P w=.ok r w:=by
 have pt:∀ {l:List S} {vs:List Value} {s:S} {td:TypeDesc},All2 (Sr φ) l vs->l[o]? =some s->P.underlying t=some td->(∀ fs,td≠.struct fs)->(∀ n e,td≠.array n e)->∃ v,(part t vs.toArray o).run P w=.ok v w/\Sr φ s v:=by
  intro l vs s td ha hs ht h1 h2;obtain⟨v,hv,hr⟩:=ha.get hs;refine⟨v,?_,hr⟩
  have hag:(isAgg t).run P w=.ok false w:=by
   simp only[isAgg,Sem.run_bind,Ab.run_underlying ht,Result.andThen_ok]
   cases td<;>first|rfl|exact absurd rfl (h1 _)|exact absurd rfl (h2 _ _)
  simp[part,hag,hv]
 unfold tn at h;split at h
 ·rename_i k a k' b
  split at h
  ·rename_i kd hty
   split at h
   ·rename_i hk
    have:=oU hk;subst this;cases h;obtain⟨u,hu,ru⟩:=pt hx ex hty (fun _=>by simp) (fun _ _=>by simp);obtain⟨v,hv,rv⟩:=pt hy ey hty (fun _=>by simp) (fun _ _=>by simp);simp only[Sr] at ru rv;subst ru;subst rv;exact⟨_,_,hu,hv,run_equalIn_int w d t _ kd _ _ hty⟩
   ·cases h
  ·cases h
 ·split at h
  ·rename_i hb
   unfold gk at hb;split at hb
   ·rename_i hty
    cases h;obtain⟨u,hu,ru⟩:=pt hx ex hty (fun _=>by simp) (fun _ _=>by simp);obtain⟨v,hv,rv⟩:=pt hy ey hty (fun _=>by simp) (fun _ _=>by simp);simp only[Sr] at ru rv;subst ru;subst rv;exact⟨_,_,hu,hv,nb d hty _ _⟩
   ·cases hb
  ·cases h
 ·split at h
  ·rename_i hty
   cases h;obtain⟨u,hu,ru⟩:=pt hx ex hty (fun _=>by simp) (fun _ _=>by simp);obtain⟨v,hv,rv⟩:=pt hy ey hty (fun _=>by simp) (fun _ _=>by simp);simp only[Sr] at ru rv;subst ru;subst rv;refine⟨_,_,hu,hv,?_⟩;rw[run_equalIn_string w d t _ _ hty];simp only[Ab.toList_mk];rw[tK]
  ·cases h
 ·split at h
  ·rename_i kd hty
   obtain⟨u,hu,ru⟩:=pt hx ex hty (fun _=>by simp) (fun _ _=>by simp);obtain⟨v,hv,rv⟩:=pt hy ey hty (fun _=>by simp) (fun _ _=>by simp);obtain⟨k,a,b,rfl,rfl,he⟩:=u_ h ru rv;exact⟨_,_,hu,hv,by rw[run_equalIn_int w d t _ kd _ _ hty,he]⟩
  ·cases h
 ·split at h
  ·rename_i kd hty
   obtain⟨u,hu,ru⟩:=pt hx ex hty (fun _=>by simp) (fun _ _=>by simp);obtain⟨v,hv,rv⟩:=pt hy ey hty (fun _=>by simp) (fun _ _=>by simp);obtain⟨k,a,b,rfl,rfl,he⟩:=u_ h ru rv;exact⟨_,_,hu,hv,by rw[run_equalIn_int w d t _ kd _ _ hty,he]⟩
  ·cases h
 ·cases h
theorem vb {P:Program} {φ:Ph} {w:World} {xl yl:List S} {xs ys:List Value} (hx:All2 (Sr φ) xl xs) (hy:All2 (Sr φ) yl ys) (d:Nat):∀ {fs:List Field} {r:Bool},wP P xl yl fs=some r->(Op.eqFields (d+1) xs.toArray ys.toArray fs).run P w=.ok r w
 |[],r,h=>by simp[wP] at h;subst h;rfl
 |f::fs,r,h=>by
  simp only[wP] at h;split at h
  ·cases h
  ·rename_i hn
   have hn : f.name ≠ "_" := by simpa using hn
   split at h
   ·rename_i a b h1 h2
    cases h;obtain⟨u,v,hu,hv,he⟩:=wQ (w:=w) h1 hx hy rfl rfl d;have ih:=vb (w:=w) hx hy d h2;simp only[Op.eqFields,if_pos hn,Sem.run_bind,hu,hv,he,Result.andThen_ok]
    cases a with
    |false=>simp
    |true=>simpa using ih
   ·cases h
def pE (P:Program) (op:BinOp) (t:TypeId) (xl yl:List S) (ans:List Ans):SO:=
 match P.underlying t with
 |some (.struct fs)=>
  match wP P xl yl fs.toList with
  |some b=>match se op b ans with|some (s,as_,C)=>some (s,as_,(P.stoodInHeld t=false/\P.eqGuardType P.depth t=false)/\C)|none=>none
  |none=>none
 |_=>none
def jg (P:Program) (op:BinOp) (t:TypeId) (x y:V) (ans:List Ans):SO:=
 match x,y with
 | .agg l,.agg l'=>pE P op t l l' ans
 |x,y=>BG P op t x y ans
theorem BF {P:Program} {φ:Ph} {op:BinOp} {t:TypeId} {x y:V} {ans:List Ans} {s:S} {as_:List Ans} {C:Prop} (h:jg P op t x y ans=some (s,as_,C)) (hC:C)
 {ox oy:Operand} {u v:Value} (hu:Vr φ x u) (hv:Vr φ y v):sk P φ (do eqGuard op t ox oy u v;binOp op t u v) s:=by
 unfold jg at h;split at h
 ·obtain⟨xs,rfl,hx⟩:=hu
  obtain⟨ys,rfl,hy⟩:=hv;unfold pE at h;split at h
  ·rename_i fs hty
   split at h
   ·rename_i b hb
    split at h
    ·rename_i s' as' C' he
     simp only[Option.some.injEq,Prod.mk.injEq] at h;obtain⟨rfl,rfl,rfl⟩:=h;obtain⟨⟨c1,c2⟩,c3⟩:=hC
     have hfs:P.fieldsOf t=fs:=by simp[Program.fieldsOf,hty]
     have hq:∀ w,(Op.equal t (.agg xs.toArray) (.agg ys.toArray)).run P w=.ok b w:=by
      intro w
      refine wM fun d=>?_
      rw[run_equalIn_struct (P:=P) w (d+1) t xs.toArray ys.toArray (by rw[hfs];exact hty) c1,hfs];exact vb hx hy d hb
     intro w;obtain⟨r,h1,h2⟩:=gS (P:=P) (t:=t) (x:=.agg xs.toArray) (y:=.agg ys.toArray) he c3 hq (fun w=>by simp only[binOp]) (fun w=>by simp only[binOp]) φ w;exact⟨r,by simp only[Sem.run_bind,run_eqGuard_agg w op t ox oy _ _ c2,Result.andThen_ok,h1],h2⟩
    ·cases h
   ·cases h
  ·cases h
 ·exact DL h hC hu hv
def cU (P:Program) (n:Nat) (t:TypeId) (x:V) (f:Nat) (ans:List Ans):Option Out:=
 match P.underlying t,x with
 |some (.struct fs),.agg l=>
  match fs[f]? with
  |some fd=>
   match tyS P fd.type with
   |some (true,sz)=>lt n (.agg ((l.drop fd.offset).take sz)) ans True
   |some (false,_)=>match l[fd.offset]? with|some s=>lt n (.s s) ans True|none=>none
   |none=>none
  |none=>none
 |_,_=>none
theorem kv {P:Program} {t:TypeId} {ag:Bool} {sz:Nat} (ht:tyS P t=some (ag,sz)) (w:World):(isAgg t).run P w=.ok ag w/\(sizeOf t).run P w=.ok sz w:=by
 unfold tyS at ht;simp only[isAgg,sizeOf,typeInfo,underlying,Sem.run_bind,run_program,Result.andThen_ok]
 cases hu:P.underlying t with
 |none=>simp[hu] at ht
 |some d=>
  simp only[hu] at ht |-
  cases hi:P.info? t with
  |none=>rw[hi] at ht;cases d<;>simp at ht
  |some i=>rw[hi] at ht;cases d<;>simp at ht<;>obtain⟨rfl,rfl⟩:=ht<;>simp
theorem tS {P:Program} {env:List V} {n:Nat} {L:Hp} {t:TypeId} {x:Operand} {f:Nat} {ans:List Ans} {out:Out} {o:Oper} (ho:o.op=.field t x f)
 (h:cU P n t (ev env x) f ans=some out):OutOK P o env n L out:=by
 unfold cU at h;split at h
 ·rename_i fs l hty hx
  split at h
  ·rename_i fd hfd
   split at h
   ·rename_i sz ht
    refine ez h fun φ a w hop=>?_
    have g:=hop x (by simp[ho,Op.operands]);rw[hx] at g;obtain⟨xs,hv,hall⟩:=g;refine⟨.agg ((xs.drop fd.offset).take sz).toArray,?_,_,rfl,(hall.drop _).take _⟩
    have e:xs.toArray.extract fd.offset (fd.offset+sz)=((xs.drop fd.offset).take sz).toArray:=by
     apply Array.ext';simp[List.extract_eq_take_drop]
    simp only[execOp,ho,hv,Instr.field,Sem.run_bind,Ab.run_underlying hty,Result.andThen_ok,hfd,asAgg,Sem.run_pure,part,(kv ht w).1,(kv ht w).2,if_true,e]
   ·rename_i q ht
    split at h
    ·rename_i s hs
     refine ez h fun φ a w hop=>?_
     have g:=hop x (by simp[ho,Op.operands]);rw[hx] at g;obtain⟨xs,hv,hall⟩:=g;obtain⟨v,hv2,hr⟩:=hall.get hs;refine⟨v,?_,hr⟩;simp[execOp,ho,hv,Instr.field,Ab.run_underlying hty,hfd,asAgg,part,(kv ht w).1,hv2]
    ·cases h
   ·cases h
  ·cases h
 ·cases h
def e_ (l:List UInt8):List S:=l.map fun b=> .int .u8 (b.toNat:Int)
theorem kI {φ:Ph}:∀ (l:List UInt8),All2 (Sr φ) (e_ l) (l.map fun (b:UInt8)=>Value.int .u8 (b.toNat:Int))
 |[]=>trivial
 |_::t=>⟨rfl,kI t⟩
def ir (P:Program) (n:Nat) (L:Hp) (src dst:TypeId) (x:V) (ans:List Ans):Option Out:=
 match P.underlying src,P.underlying dst,x with
 |some (.slice e),some .string,.s (.slc (some (i,o)) len _)=>
  match P.underlying e,lk L i,ans with
  |some (.int .u8),some bl,.val (.s (.str l))::as_=>some ⟨⟨[i],.s (.str l),[],n⟩,as_,(bl.cells.drop o).take len=e_ l/\len=l.length/\bl.kind=none⟩
  |_,_,_=>none
 |some (.slice e),some .string,.s (.slc none _ _)=>
  match P.underlying e with
  |some (.int .u8)=>some ⟨⟨[],.s (.str []),[],n⟩,ans,True⟩
  |_=>none
 |_,_,_=>none
theorem xd {P:Program} {env:List V} {n:Nat} {L:Hp} {src dst:TypeId} {x:Operand} {ans:List Ans} {out:Out} {o:Oper} (ho:o.op=.convert src dst x)
 (h:ir P n L src dst (ev env x) ans=some out) (hC:out.C):OutOK P o env n L out:=by
 unfold ir at h;split at h
 ·rename_i e i off len c hs hd hx
  split at h
  ·rename_i bl l as_ he hl
   cases h;obtain⟨h1,rfl,hkd⟩:=hC;refine⟨OpL.light fun φ a w hop hg=>?_,Nat.le_refl _⟩;have g:=hop x (by simp[ho,Op.operands]);rw[hx] at g;obtain⟨b,k,hb,hv,_⟩:=g;obtain⟨b',hb',hat⟩:=hg.hr i bl (by rw[aE];simp[hl]);rw[hb] at hb';cases hb';refine⟨.string ⟨l.toArray⟩,?_,rfl⟩
   have:=run_convert_bytes_back (P:=P) w src dst e ⟨b.1,off+b.2,none⟩ k l hs he hd (fun j hj=>by
    have hc:bl.cells[off+j]? =some (.int .u8 (l[j].toNat:Int)):=by
     have h2:((bl.cells.drop off).take l.length)[j]? =(e_ l)[j]? :=by rw[h1]
     rw[List.getElem?_take,if_pos hj,List.getElem?_drop] at h2;rw[h2];simp[e_,hj]
    obtain⟨v,hv2,hr⟩:=vq hat hkd hc;simp only[Sr] at hr
    rw[aA,Nat.add_right_comm,hv2,hr])
   simp only[execOp,ho,hv];rw[Sem.run_bind,this];rfl
  ·cases h
 ·rename_i e len c hs hd hx
  split at h
  ·rename_i he
   cases h;refine⟨OpL.light fun φ a w hop hg=>?_,Nat.le_refl _⟩;have g:=hop x (by simp[ho,Op.operands]);rw[hx] at g;obtain⟨_,_,hv⟩:=g;refine⟨.string ⟨#[]⟩,?_,rfl⟩;simp only[execOp,ho,hv,Sem.run_bind,convert,Ab.run_underlying hs,Ab.run_underlying hd,Ab.run_underlying he,Result.andThen_ok,Conv.bytesToString,Sem.run_pure];rfl
  ·cases h
 ·cases h
def ek (P:Program) (n:Nat) (src dst:TypeId) (x:V) (ans:List Ans):Option Out:=
 match P.underlying src,P.underlying dst,x with
 |some .string,some (.slice e),.s (.str l)=>
  match P.underlying e with
  |some (.int .u8)=>some ⟨⟨[],.s (.slc (some (n,0)) l.length none),[(n,some {cells:=e_ l,ty:=e,more:=true,sym:=true,flat:=true})],n+1⟩,ans,True⟩
  |_=>none
 |_,_,_=>none
theorem sa {P:Program} {env:List V} {n:Nat} {L:Hp} {src dst:TypeId} {x:Operand} {ans:List Ans} {out:Out} {o:Oper} (ho:o.op=.convert src dst x)
 (h:ek P n src dst (ev env x) ans=some out):OutOK P o env n L out:=by
 unfold ek at h;split at h
 ·rename_i e l hs hd hx
  split at h
  ·rename_i he
   cases h;refine⟨?_,Nat.le_succ _⟩
   refine OpL.fresh (L:=[]) (bl:={cells:=e_ l,ty:=e,more:=true,sym:=true,flat:=true}) (by simp[lk]) fun φ a w hop _=>?_
   have g:=hop x (by simp[ho,Op.operands]);rw[hx] at g;simp only[Vr,Sr] at g;have hr:=run_bytes_of_string (P:=P) w src dst e ⟨l.toArray⟩ hs hd he;have es:(⟨l.toArray⟩:ByteArray).size=l.length:=rfl;rw[es] at hr;generalize hcap:grownCap w l.length 0 e=cap at hr
   have hle:l.length<=cap:=by rw[<-hcap];unfold grownCap;simp only[Question.cut];omega
   have hrow:bytesRow ⟨l.toArray⟩ cap=((l.map fun (b:UInt8)=>Value.int .u8 (b.toNat:Int))++List.replicate (cap-l.length) (Value.int .u8 0)).toArray:=by
    apply Array.ext';simp[bytesRow,es]
   refine⟨.slice (some ⟨w.heap.size,0,none⟩) l.length cap,w.drew.alloc (.cells (bytesRow ⟨l.toArray⟩ cap) e ((bytesRow ⟨l.toArray⟩ cap).size,(bytesRow ⟨l.toArray⟩ cap).size+1)),by simp only[execOp,ho,g];rw[Sem.run_bind,hr];rfl,rfl,rfl,rfl,⟨_,rfl⟩,?_,fun φ' hn _=>⟨_,cap,hn,rfl,hle,.inl rfl⟩⟩;refine⟨[],l.map fun (b:UInt8)=>Value.int .u8 (b.toNat:Int),List.replicate (cap-l.length) (Value.int .u8 0),((bytesRow ⟨l.toArray⟩ cap).size,(bytesRow ⟨l.toArray⟩ cap).size+1),?_,rfl,?_,fun e=>by simp at e,fun _ o ho=>?_,⟨fun _ _ e=>(by cases e),fun _ e=>(by cases e)⟩⟩
   ·show (w.heap.push _)[w.heap.size]? =_
    rw[hrow];simp[bC]
   ·show All2 (Sr ⟨fun _=>none,φ.z⟩) (e_ l) _
    exact kI l
   ·rw[hrow];simp at ho |-;omega
  ·cases h
 ·cases h
section
variable {P:Program} {ts:Array TypeId} {ty t tx e:TypeId} {inf:TypeInfo} {dx:TypeDesc}
theorem tL {w w':World} (h0:ts[0]? =some t) (h1:ts[1]? =some tx) (ht:P.underlying t=some (.slice e)) (hx:P.underlying tx=some dx) (hdx:∀ k,dx≠.int k) (hi:P.info? e=some inf) {a:Addr} {len cap n:Nat} {x:Value} {new:Array Value}
 (hlen:(Builtin.lenOf x).run P w=.ok n w) (hnew:(Builtin.firstCells inf.size n x).run P w=.ok new w) (hfit:len+n<=cap) (hst:(storeCells (a.add (len*inf.size)) new.toList).run P w=.ok () w'):
 (Builtin.append_ ts ty #[.slice (some a) len cap,x]).run P w=.ok (.slice (some a) (len+n) cap) w':=by
 have hz:(match dx with| .int _=>true|_=>false)=false:=by cases dx<;>first|rfl|exact absurd rfl (hdx _)
 have hsz:(sizeOf e).run P w=.ok inf.size w:=by simp[sizeOf,typeInfo,hi]
 unfold Builtin.append_;simp only[h0,h1,List.getElem?_toArray,List.getElem?_cons_zero,List.getElem?_cons_succ,Sem.run_bind,Ab.run_underlying ht,Ab.run_underlying hx,Result.andThen_ok,hsz,Sem.run_pure]
 cases dx<;>first|exact absurd rfl (hdx _)|(simp only[Bool.false_eq_true,if_false,Bool.not_false,if_true,hlen,Sem.run_bind,Result.andThen_ok,Sem.run_pure,if_pos hfit,hnew,hst])
end
theorem Pr.sr {φ:Ph} {x:S} {v:Value} (h:Pr φ.z x v):Sr φ x v:=by
 cases h with
 |bool b=>rfl
 |int k n=>rfl
 |str l=>rfl
 |unk v h=>exact h
 |cst v h=>exact⟨rfl,h⟩
 |nil get sz a k hk=>exact .nil get sz a k hk
 |frz get sz n b o k vs h1 hn val hl hv hx=>exact .frz get sz n b o k vs h1 hn val hl hv hx
def bQ (get:Nat->List S) (k:Nat):List S:=(List.range k).flatMap get
theorem il (get:Nat->List S) (k:Nat):bQ get (k+1)=bQ get k++get k:=by
 unfold bQ;rw[List.range_succ,List.flatMap_append];simp
theorem m_ {φ:Ph} {get:Nat->List S} {sz n o:Nat} {vs:List Value} {val:Nat->Nat->Value} (hl:∀ i,i<n->(get i).length=sz) (hv:∀ i j x,i<n->(get i)[j]? =some x->vs[o+(i*sz+j)]? =some (val i j)) (hx:∀ i j x,i<n->(get i)[j]? =some x->Pr φ.z x (val i j)):
 ∀ k,k<=n->∃ ys:List Value,ys.length=k*sz/\All2 (Sr φ) (bQ get k) ys/\∀ i y,ys[i]? =some y->vs[o+i]? =some y:=by
 intro k
 induction k with
 |zero=>intro _;exact⟨[],by simp,trivial,fun i y h=>by simp at h⟩
 |succ k ih=>
  intro hk;obtain⟨ys,h1,h2,h3⟩:=ih (by omega);have hlk:=hl k (by omega);refine⟨ys++(List.range sz).map (val k),by simp[h1,Nat.add_mul],?_,?_⟩
  ·rw[il]
   refine h2.append (All2.of_get (by simp[hlk]) fun j x y hj hy=>?_)
   have hjs:j<sz:=by
    rcases Nat.lt_or_ge j (get k).length with h|h
    ·omega
    ·simp[List.getElem?_eq_none h] at hj
   simp only[List.getElem?_map,List.getElem?_range hjs,Option.map_some,Option.some.injEq] at hy;subst hy;exact (hx k j x (by omega) hj).sr
  ·intro i y hi
   rcases Nat.lt_or_ge i ys.length with h|h
   ·rw[List.getElem?_append_left h] at hi;exact h3 i y hi
   ·rw[List.getElem?_append_right h,h1] at hi
    have hjs:i-k*sz<sz:=by
     rcases Nat.lt_or_ge (i-k*sz) sz with h|h
     ·exact h
     ·rw[List.getElem?_map,List.getElem?_eq_none (by simpa using h)] at hi;cases hi
    simp only[List.getElem?_map,List.getElem?_range hjs,Option.map_some,Option.some.injEq] at hi;subst hi
    have hj:(get k)[i-k*sz]? =some ((get k)[i-k*sz]'(by omega)):=by simp
    have:=hv k (i-k*sz) _ (by omega) hj;rw[show o+i=o+(k*sz+(i-k*sz)) by omega];exact this
def dm (L:Hp) (size k:Nat) (x:V):Option (List Nat×Nat×List S×Prop):=
 match x with
 | .s (.str l)=>match size with|1=>some ([],l.length,e_ (l.take k),True)|_=>none
 | .s (.slc none _ _)=>some ([],0,[],k=0)
 | .s .emp=>some ([],0,[],k=0)
 | .s .emq=>some ([],0,[],k=0)
 | .s (.slc (some (j,p)) m _)=>match lk L j with|some bl=>some ([j],m,(bl.cells.drop p).take (k*size),p+k*size<=bl.cells.length/\bl.kind=none)|none=>none
 | .s (.frz get sz m)=>match Nat.beq sz size with|true=>some ([],m,bQ get k,True)|false=>none
 |_=>none
theorem pQ {P:Program} {φ:Ph} {w:World} {L M:Hp} {size k:Nat} {x:V} {foot:List Nat} {m:Nat} {xs:List S} {C:Prop} (h:dm L size k x=some (foot,m,xs,C)) (hC:C) (hk:k<=m) (hg:Good φ M w) (hf:∀ i∈foot,lk M i=lk L i) {v:Value} (hv:Vr φ x v):
 (Builtin.lenOf v).run P w=.ok m w/\∃ vs:List Value,(Builtin.firstCells size k v).run P w=.ok vs.toArray w/\All2 (Sr φ) xs vs/\xs.length=k*size:=by
 unfold dm at h;split at h
 ·rename_i l
  simp only[Vr,Sr] at hv;subst hv;split at h
  ·simp only[Option.some.injEq,Prod.mk.injEq] at h
   obtain⟨rfl,rfl,rfl,rfl⟩:=h;refine⟨rfl,(l.take k).map fun (b:UInt8)=>Value.int .u8 (b.toNat:Int),?_,kI _,by simp[e_];omega⟩;simp only[Builtin.firstCells,Sem.run_pure];congr 1;apply Array.ext';simp[ByteArray.data_extract]
  ·cases h
 ·simp only[Option.some.injEq,Prod.mk.injEq] at h
  obtain⟨rfl,rfl,rfl,rfl⟩:=h;obtain⟨_,_,rfl⟩:=hv;exact⟨rfl,[],rfl,trivial,by simp[hC]⟩
 ·simp only[Option.some.injEq,Prod.mk.injEq] at h
  obtain⟨rfl,rfl,rfl,rfl⟩:=h;obtain⟨a,rfl⟩:=hv;subst hC;exact⟨rfl,[],by simp[Builtin.firstCells,loadCells,loadCellsFrom],trivial,by simp⟩
 ·simp only[Option.some.injEq,Prod.mk.injEq] at h
  obtain⟨rfl,rfl,rfl,rfl⟩:=h;obtain⟨a,kk,rfl⟩:=hv;subst hC;exact⟨rfl,[],by simp[Builtin.firstCells,loadCells,loadCellsFrom],trivial,by simp⟩
 ·rename_i j p mm c
  split at h
  ·rename_i bl hl
   simp only[Option.some.injEq,Prod.mk.injEq] at h;obtain⟨rfl,rfl,rfl,rfl⟩:=h;obtain⟨b,kc,hb,rfl,_⟩:=hv;obtain⟨b',hb',hat⟩:=hg.hr j bl (by rw[hf j (by simp)];exact hl);rw[hb] at hb';cases hb';refine⟨rfl,?_⟩;obtain⟨hC,hkd⟩:=hC;obtain⟨pre,ys,rest,fr,h1,hp,h2,h3,h4⟩:=hat;rw[hkd] at h1;simp only[bC] at h1;have hlen:=h2.len;have hv2:All2 (Sr φ) ((bl.cells.drop p).take (k*size)) ((ys.drop p).take (k*size)):=((h2.mono fun _ _=>Sr.mono (bl.ph_le_self φ)).drop p).take _
   have hl2:((ys.drop p).take (k*size)).length=k*size:=by simp;omega
   refine⟨(ys.drop p).take (k*size),?_,hv2,by rw[<-hv2.len,hl2]⟩
   have hld:=aK (P:=P) (w:=w) (b:=b.1) (o:=p+b.2) ((ys.drop p).take (k*size)) 0 #[] (by
    intro i v hi
    have hi':i<k*size:=by
     rcases Nat.lt_or_ge i ((ys.drop p).take (k*size)).length with h|h
     ·omega
     ·simp[List.getElem?_eq_none h] at hi
    simp only[List.getElem?_take,List.getElem?_drop,if_pos hi'] at hi;simp only[World.cell?,h1]
    have:p+i<ys.length:=by omega
    simp only[Option.isSome_none,Bool.false_eq_true,if_false,List.getElem?_toArray,Nat.zero_add]
    rw[show p+b.2+i=(p+i)+b.2 by omega,fk pre _ hp,List.getElem?_append_left this];exact hi)
   rw[hl2] at hld
   simpa [Builtin.firstCells,loadCells] using hld
  ·cases h
 ·rename_i get sz mm
  split at h
  ·rename_i hb
   have hb:=Nat.eq_of_beq_eq_true hb;subst hb;simp only[Option.some.injEq,Prod.mk.injEq] at h;obtain⟨rfl,rfl,rfl,rfl⟩:=h;have hv:Pr φ.z (.frz get sz mm) v:=hv
   cases hv with
   |nil get' sz' a c=>
    obtain rfl:k=0:=by omega
    exact⟨rfl,[],by cases a<;>simp[Builtin.firstCells,loadCells,loadCellsFrom],trivial,by simp[bQ]⟩
   |frz get' sz' n' b o c vs h1 hn val hl hvv hx=>
    obtain⟨ys,q1,q2,q3⟩:=m_ (φ:=φ) hl hvv hx k hk;refine⟨rfl,ys,?_,q2,by rw[<-q2.len,q1]⟩;obtain⟨⟨ty,fr,hb⟩,_⟩:=hg.fz b vs h1
    have hld:=aK (P:=P) (w:=w) (b:=b) (o:=o) ys 0 #[] (by
     intro i v hi;simp only[World.cell?,hb,Option.isSome_none,Bool.false_eq_true,if_false,List.getElem?_toArray,Nat.zero_add]
     exact q3 i v hi)
    rw[q1] at hld
    simpa [Builtin.firstCells,loadCells] using hld
  ·cases h
 ·cases h
def sf (P:Program) (ts:Array TypeId) (n:Nat) (L:Hp) (d x:V) (ans:List Ans):Option Out:=
 match ts[0]? with
 |some t=>
  match P.underlying t,d with
  |some (.slice e),.s (.slc (some (i,o)) dl _)=>
   match aF P e,lk L i with
   |some sz,some bl=>
    match ans with
    | .idx k::.cells cs::as_=>
      match dm L sz k x with
      |some (foot,m,xs,C)=>
       match !bl.ro&&bl.kind.isNone with
       |true=>some ⟨⟨i::foot,.s (.int .i64 (k:Int)),[(i,some {bl with cells:=cs})],n⟩,as_,C/\k=min m dl/\o+k*sz<=bl.cells.length/\cs=aU bl.cells o xs/\aR bl xs=true⟩
       |false=>none
      |none=>none
    |_=>none
   |_,_=>none
  |_,_=>none
 |none=>none
theorem BB {P:Program} {env:List V} {n:Nat} {L:Hp} {ans:List Ans} {out:Out} {o:Oper} {c:Call} {d x:Operand} (ho:o.op=.call c) (hc:c.callee=.builtin .copy) (hargs:c.args.toList=[d,x])
 (h:sf P c.argTypes n L (ev env d) (ev env x) ans=some out) (hC:out.C):OutOK P o env n L out:=by
 unfold sf at h;split at h
 ·rename_i t ht
  split at h
  ·rename_i e i off dl cap hty hd
   split at h
   ·rename_i sz bl hsz hl
    split at h
    ·rename_i k cs as_
     split at h
     ·rename_i foot m xs C hsrc
      split at h
      ·rename_i hchk
       simp only[Bool.and_eq_true,Bool.not_eq_true'] at hchk;cases h;obtain⟨c1,c2,c3,c4,c5⟩:=hC;refine⟨?_,Nat.le_refl _⟩;intro φ a w Q hop hg hfree
       have opd:d∈o.op.operands:=by rw[ho];simp only[Op.operands,Call.operands,hc];simp[<-Array.mem_toList_iff,hargs]
       have opx:x∈o.op.operands:=by rw[ho];simp only[Op.operands,Call.operands,hc];simp[<-Array.mem_toList_iff,hargs]
       have g1:=hop d opd;have g2:=hop x opx;rw[hd] at g1;obtain⟨b,kc,hb,hv,_⟩:=g1;obtain⟨r1,vs,r2,r3,r4⟩:=pQ (P:=P) hsrc c1 (by omega) hg (fun j hj=>by rw[aE,if_pos (by simp[hj])]) g2;obtain⟨b',hb',hat⟩:=hg.hr i bl (by rw[aE,if_pos (by simp)];exact hl);rw[hb] at hb';cases hb';obtain⟨pre,ys,rest,fr,k1,hp,k2,k3,k4,k5⟩:=hat
       have hkd:bl.kind=none:=by simpa using hchk.2
       rw[hkd] at k1;simp only[bC] at k1;have hl1:=k2.len;have hl2:=r3.len
       obtain⟨w',hr,q1,q2,q3,q4,q5,q6⟩:=cJ (P:=P) (b:=b.1) (o:=off+b.2) vs 0 w (pre++(ys++rest)) k1
        (fun z hz=>by
          obtain⟨j,hj,hz⟩:=List.getElem_of_mem hz;obtain⟨s,hsm,hs⟩:=r3.get' (i:=j) (b:=z) (by rw[<-hz];simp[hj])
          exact hs.cell (jE c5 hsm))
        (by simp only[List.length_append];omega) (k4 hchk.1)
       have hsub:Sub [(i,some bl)] (res (i::foot) L):=by
        intro j bj hj;rw[ak] at hj;split at hj
        ·rename_i e;subst e;cases hj;rw[aE,if_pos (by simp)];exact hl
        ·simp[lk] at hj
       obtain⟨good,stp⟩:=kZ (w':=w') (cs':=cs) hkd (hg.sub hsub) hb hchk.1 c5 r3 (by omega) c4 ⟨pre,ys,rest,fr,k1,hp,k2,k3,k4 hchk.1,k5,by simpa using q5⟩ q1 q2 q3 q4 q6
       obtain⟨f1,f2⟩:=frame (M':=puts (res (i::foot) L) [(i,some {bl with cells:=cs})]) hg hsub good stp (Ph.le_refl _) (by
        intro j bj hj;simp only[puts] at hj;rw[ax] at hj;by_cases e:i=j
        ·subst e;rw[if_pos rfl] at hj;exact .inl (by rw[ak,if_pos rfl];exact hj)
        ·rw[if_neg e] at hj;exact .inr ⟨by rw[ak,if_neg e];rfl,hj⟩)
       have hrun:(execOp a.eval o).run P w=.ok (.value (.int .i64 (k:Int))) w':=by
        have ea:c.args.map a.eval= #[a.eval d,a.eval x]:=by apply Array.ext';simp[hargs]
        have hk:Nat.min m dl=k:=c2.symm;simp only[execOp,ho,resolve,hc,Sem.run_bind,Sem.run_pure,Result.andThen_ok,invoke,builtin,ea,Builtin.copy_,ht,List.getElem?_toArray,List.getElem?_cons_zero,List.getElem?_cons_succ,Ab.run_underlying hty,hv,r1,ao hsz,hk,r2,hr,goInt]
       unfold Oper.wp;rw[hrun,Oper.upon_value];exact⟨φ,_,rfl,rfl,f1,f2,fun _ _=>rfl⟩
      ·cases h
     ·cases h
    ·cases h
   ·cases h
  ·cases h
 ·cases h
end Ab
end Go.Proofs.YtegjgpldfgjoiaaGreatDoor
