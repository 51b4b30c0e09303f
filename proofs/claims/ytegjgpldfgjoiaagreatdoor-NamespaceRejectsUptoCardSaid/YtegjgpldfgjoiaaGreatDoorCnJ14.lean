import Derived.Test.YtegjgpldfgjoiaaGreatDoorCnJ12
import Derived.MapKept
set_option linter.all false
namespace Go.Proofs.YtegjgpldfgjoiaaGreatDoor
namespace Ab
open Go
section
variable {cs:List S} {ty g w i:Nat} {t M L0 L0':Hp}
theorem SubF.refl (L:Hp):SubF L L:=λi bl h=>⟨bl,h,rfl,λ_ _ _ h=>h⟩
theorem SubF.one {L L':Hp} (i:Nat) {bl bl':Bl} (h1:lk L i=some bl) (h2:∀ j,lk L' j=if i=j then some bl' else lk L j) (hr:bl'.ro=bl.ro) (hb:∀ φ w b,BlAt φ w b bl->BlAt φ w b bl'):SubF L' L:=by
 intro j c hj
 grind
theorem BlAt.cells {φ:Ph} {w:World} {b:Nat×Nat} {bl:Bl} (hc:All2 SLe bl.cells cs) (h:BlAt φ w b bl):BlAt φ w b {bl with cells:=cs}:=by
 obtain⟨pre,xs,rest,fr,h1,h2,h3,h4,h5,h6⟩:=h;refine⟨pre,xs,rest,fr,h1,h2,?_,h4,h5,h6⟩;exact SLe.alls hc h3
def fq (ty g w:Nat):List S->Option Bl
 |[]=>none
 |c::cs=>some {cells:=c::cs,ty:=ty,more:=true,sym:=true,flat:=true,gh:=some (g,w)}
theorem az {r:Nat->Nat}:Dv r (fq ty g w cs)=fq ty (r g) w cs:=by cases cs<;>rfl
theorem bS {n:Nat} (h1:Nat.blt i n=true) (h2:Nat.blt g n=true) (k:fg n t=true):fg n ((i,fq ty g w cs)::t)=true:=by
 cases cs with
 |nil=>exact k
 |cons c cs=>grind [fq,fg,LV,okG]
theorem mp {tbl:List Nat} {new:Nat} (h1:Nat.blt i tbl.length=true) (h2:lk M (tbl.getD i 0)=fq ty (rn tbl new g) w cs) (k:FitP tbl new M t):FitP tbl new M ((i,fq ty g w cs)::t):=by
 cases cs with
 |nil=>exact k
 |cons c cs=>exact⟨⟨h1,_,h2,rfl,λh=>h⟩,k⟩
theorem bh {r:Nat->Nat} (h2:lk M (r i)=fq ty (r g) w cs) (k:MemP r M t):MemP r M ((i,fq ty g w cs)::t):=by
 cases cs with
 |nil=>exact k
 |cons c cs=>exact⟨h2,k⟩
theorem fF (h2:lk M i=fq ty g w cs) (k:SubP M t):SubP M ((i,fq ty g w cs)::t):=by
 cases cs with
 |nil=>exact k
 |cons c cs=>exact⟨h2,k⟩
def er (tbl:List Nat) (new:Nat) (L0:Hp):Hp->Hp
 |[]=>[]
 |(i,c)::t=>
  match Nat.blt i tbl.length with
  |true=>
   match c with
   |none=>(rn tbl new i,none)::er tbl new L0 t
   |some c=>
    match lk L0 i with
    |some b=>match b.ro with|true=>er tbl new L0 t|false=>(rn tbl new i,some (eT (rn tbl new) c))::er tbl new L0 t
    |none=>er tbl new L0 t
  |false=>(rn tbl new i,Dv (rn tbl new) c)::er tbl new L0 t
theorem pV {tbl:List Nat} {new:Nat} {L0:Hp}:∀ {L0':Hp} {x:Nat} {c:Option Bl},(x,c)∈er tbl new L0 L0'->
 ∃ i d,(i,d)∈L0'/\rn tbl new i=x/\c=d.map (eT (rn tbl new))/\(d=none\/tbl.length<=i\/∃ b,lk L0 i=some b/\b.ro=false)
 |(j,d)::t,x,c,h=>by
  simp only[er] at h
  have rest:(x,c)∈er tbl new L0 t->∃ i d',(i,d')∈(j,d)::t/\rn tbl new i=x/\c=d'.map (eT (rn tbl new))/\(d'=none\/tbl.length<=i\/∃ b,lk L0 i=some b/\b.ro=false):=λh=>by
   obtain⟨i,d',h1,h2⟩:=pV h
   grind
  have here:∀ d1:Option Bl,d1=d.map (eT (rn tbl new))->(d=none\/tbl.length<=j\/∃ b,lk L0 j=some b/\b.ro=false)->(x,c)∈(rn tbl new j,d1)::er tbl new L0 t->
   ∃ i d',(i,d')∈(j,d)::t/\rn tbl new i=x/\c=d'.map (eT (rn tbl new))/\(d'=none\/tbl.length<=i\/∃ b,lk L0 i=some b/\b.ro=false):=by
   grind
  split at h
  ·rename_i hlt
   split at h
   all_goals grind
  ·rename_i hge
   refine here _ (by cases d<;>rfl) (.inr (.inl ?_)) h
   rcases Z0a j tbl.length with hl|hl
   ·rw[bd.2 hl] at hge;cases hge
   ·exact hl
theorem qA {tbl:List Nat} {new:Nat} {L0:Hp} {i:Nat} {b:Bl} (hb:lk L0 i=some b) (hro:b.ro=false) (hi:i<tbl.length):∀ {L0':Hp},i∈bP L0'->rn tbl new i∈bP (er tbl new L0 L0')
 |(j,d)::t,h=>by
  simp only[bP,Z13,Z0h] at h;simp only[er]
  rcases h with rfl|h
  ·grind [bP]
  ·have ih:=qA (new:=new) hb hro hi (L0':=t) h
   grind [bP]
theorem uA {tbl:List Nat} {new:Nat} (hs:ep L0 L0'=true) (hn:co (bP L0')=true):xD tbl new L0 L0' M (aA M (er tbl new L0 L0')):=by
 intro x bl hx;by_cases hk:x∈bP (er tbl new L0 L0')
 ·left
  obtain⟨c,hc,he⟩:=jG _ M x hk;rw[he] at hx;subst hx;obtain⟨i,d,h1,h2,h3,h4⟩:=pV hc
  cases d with
  |none=>simp at h3
  |some bl0=>exact⟨i,bl0,h2,mR hn h1,by simpa using h3,h4.resolve_left aq⟩
 ·right
  rw[cG _ _ _ hk] at hx;refine⟨hx,λi hi e b hb=>?_⟩
  cases hro:b.ro with
  |true=>rfl
  |false=>
   exfalso;have h1:=Z0i.1 hs _ (c_ hb);have h2:i∈bP L0':=ae;have:=qA (tbl:=tbl) (new:=new) hb hro hi h2
   grind [gi]
section
variable {P:Program} {b:Nat} {ops:Array Oper} {d:Bool} {acc:List Row} {os:List Oper} {o:Oper} {env:List V} {n:Nat} {L:Hp} {R:Post} {f:FuncId} {xs:Array Operand}
theorem kF (tbl:List Nat) {args0:List V} {v0:V} {n0':Nat} (sc:FC P f args0 tbl.length L0 v0 n0' L0')
 (k1:args0.all (fI tbl.length)=true) (k2:fg tbl.length L0=true) (hchk:(ep L0 L0'&&co (bP L0')&&Nat.ble tbl.length n0'&&qW tbl n n0')=true) (k7:ry tbl L0=true)
 {args1:List V} (ha:xs.toList.map (ev env)=args1) (hle:All2 VLe args1 (args0.map (cb (rn tbl n)))) (ft:FitP tbl n (res tbl L) L0)
 (hw:bf ops env o=some true) {v:V} (hv:jg (cb (rn tbl n) v0) some=some v) {wr:Hp} (hwr:er tbl n L0 L0'=wr)
 (k:RegX P ops d (aE d o tbl wr acc) os (bg env o.dst v) (n+(n0'-tbl.length)) (aA L wr) R):CallG P ops d acc o f xs os env n L R:=by
 refine⟨λ⟨ts,ho⟩=>?_⟩;obtain⟨hf,sc⟩:=sc;rw[fh] at hv;cases hv;subst hwr;simp only[Z07] at hchk;obtain⟨⟨⟨k3,k4⟩,k5⟩,k6⟩:=hchk;unfold oz at hf;split at hf
 ·rename_i fn hfn
  simp only[Z07,Z0v] at hf;have h:=SC.opW (n:=n) (env:=env) (M:=res tbl L) sc k1 k2 ho rfl hfn hf.1 hf.2 (ha▸hle) (Fits.of k6 k7 ft) (uA k3 k4);exact RegX.op hw h (Z1o _ _) k
 ·cases hf
theorem jX (tbl:List Nat) {args0:List V} {v0:V} {n0':Nat} (sc:FC P f args0 tbl.length L0 v0 n0' L0') {wr:Hp} {args1:List V} {v:V} (k:RegX P ops d (aE d o tbl wr acc) os (bg env o.dst v) (n+(n0'-tbl.length)) (aA L wr) R)
 (k1:args0.all (fI tbl.length)=true:=by exact rfl) (k2:fg tbl.length L0=true:=by exact rfl) (hchk:(ep L0 L0'&&co (bP L0')&&Nat.ble tbl.length n0'&&qW tbl n n0')=true:=by exact rfl) (k7:ry tbl L0=true:=by exact rfl)
 (ha:xs.toList.map (ev env)=args1:=by exact rfl) (hle:All2 VLe args1 (args0.map (cb (rn tbl n))):=by (repeat first|exact trivial|refine⟨ah _,?_⟩);first|done|fail) (ft:FitP tbl n (res tbl L) L0:=by (repeat first|exact trivial|refine⟨⟨rfl,_,rfl,rfl,λh=>h⟩,?_⟩|refine⟨⟨rfl,_,rfl,rfl,λ_=>rfl⟩,?_⟩|refine mp rfl rfl ?_);first|done|fail) (hw:bf ops env o=some true:=by exact rfl) (hv:jg (cb (rn tbl n) v0) some=some v:=by exact rfl)
 (hwr:er tbl n L0 L0'=wr:=by first|(show [_]=_;rw[az];rfl)|(show [_,_]=_;rw[az];rfl)|(show [_,_,_]=_;rw[az];rfl)|(show [_,_,_,_]=_;rw[az];rfl)|(show [_,_,_,_,_]=_;rw[az];rfl)|(show [_,_,_,_,_,_]=_;rw[az];rfl)|(show [_,_,_,_,_,_,_]=_;rw[az];rfl)|exact rfl):CallG P ops d acc o f xs os env n L R:=kF tbl sc k1 k2 hchk k7 ha hle ft hw hv hwr k
end
end
end Ab
namespace Ab
open Go Go.MapKept
section
variable {F:List (List UInt8×Nat)} {φ:Ph} {w:World} {dst:Option Tmp} {tx t:TypeId} {pos:String} {af:Array Edge} {gd:Option (Nat×Bool)} {i:Nat}
def kvC (x:List UInt8×Nat):List S:=[.str x.1,.int .i64 (x.2:Int)]
def cF (F:List (List UInt8×Nat)):Bl:={cells:=F.flatMap kvC,ty:=0,flat:=true,kind:=some ⟨1,false,List.range F.length,F.length,false⟩}
def q_:List (List UInt8×Nat)->List UInt8->Option Nat
 |[],_=>none
 |x::t,k=>if x.1=k then some x.2 else q_ t k
def jq (l:List UInt8):Value:=.string ⟨l.toArray⟩
def L9 (x:List UInt8×Nat):List Value:=[jq x.1,.int .i64 (x.2:Int)]
theorem Ay {φ:Ph}:∀ {F:List (List UInt8×Nat)} {xs:List Value},All2 (Sr φ) (F.flatMap kvC) xs->xs=F.flatMap L9
 |[],[],_=>rfl
 |[],_::_,h=>h.elim
 |x::F,[],h=>h.elim
 |x::F,[_],h=>h.2.elim
 |x::F,a::b::xs,h=>by
  have h:Sr φ (.str x.1) a/\Sr φ (.int .i64 (x.2:Int)) b/\All2 (Sr φ) (F.flatMap kvC) xs:=h;obtain⟨h1,h2,h3⟩:=h;have h1:a=jq x.1:=h1;have h2:b=.int .i64 (x.2:Int):=h2;rw[Ay h3,h1,h2];rfl
theorem Er (φ:Ph):∀ F:List (List UInt8×Nat),All2 (Sr φ) (F.flatMap kvC) (F.flatMap L9)
 |[]=>trivial
 |x::F=>⟨rfl,rfl,Er φ F⟩
def l7:List Nat->List (List UInt8×Nat)->List MapEntry
 |b::bs,x::t=>{key:=jq x.1,val:=.int .i64 (x.2:Int),born:=b}::l7 bs t
 |_,_=>[]
theorem m_:∀ (born:List Nat) (F:List (List UInt8×Nat)),yP false 1 born (F.flatMap L9)=l7 born F
 |[],[]=>rfl
 |[],_::_=>rfl
 |_::_,[]=>rfl
 |b::bs,x::F=>by
  show MapEntry.mk (jq x.1) _ b::yP false 1 bs (F.flatMap L9)=_;rw[m_ bs F];rfl
theorem FO (x y:List UInt8):((⟨x.toArray⟩:ByteArray)==⟨y.toArray⟩)=decide (x=y):=by
 grind [bytes_beq]
theorem De (x y:List UInt8):Instr.sameNow .string (jq x) (jq y)=some (decide (x=y)):=by
 show some ((⟨x.toArray⟩:ByteArray)==⟨y.toArray⟩)=_;rw[FO]
theorem m8 {k:List UInt8}:∀ (F:List (List UInt8×Nat)) (born:List Nat) (i:Nat),born.length=F.length->
 (∀ v,q_ F k=some v->∃ j,Instr.findNow .string (jq k) (l7 born F) i=some (some (j,.int .i64 (v:Int))))/\(q_ F k=none->Instr.findNow .string (jq k) (l7 born F) i=some none)
 |[],[],i,_=>⟨λv h=>(by cases h),λ_=>rfl⟩
 |[],_::_,i,h=>by cases h
 |_::_,[],i,h=>by cases h
 |x::F,b::bs,i,h=>by
  have ih:=m8 (k:=k) F bs (i+1) ae
  grind [q_,l7,Instr.findNow,De]
theorem sf:∀ (F:List (List UInt8×Nat)) (born:List Nat) (x:List UInt8×Nat) (c:Nat),born.length=F.length->l7 (born++[c]) (F++[x])=l7 born F++[{key:=jq x.1,val:=.int .i64 (x.2:Int),born:=c}]
 |[],[],_,_,_=>rfl
 |[],_::_,_,_,h=>by cases h
 |_::_,[],_,_,h=>by cases h
 |y::F,b::bs,x,c,h=>by
  show _::l7 (bs++[c]) (F++[x])=_::(l7 bs F++_)
  rw[sf F bs x c ae]
theorem Ee {b:Nat×Nat} {r:Bool} (h:BlAt φ w b {cF F with ro:=r}) (hb:b.2=0):w.heap[b.1]? =some (.map (l7 (List.range F.length) F).toArray F.length):=by
 obtain⟨pre,xs,rest,fr,h1,h2,h3,h4,h5,h6⟩:=h;rw[hb] at h2;have:=Z15 h2;subst this;have:=h4 rfl;subst this;have:=Ay h3
 grind [cF,di,m_]
theorem FU {b:Nat×Nat} (h:w.heap[b.1]? =some (.map (l7 (List.range F.length) F).toArray F.length)) (hb:b.2=0):BlAt φ w b (cF F):=by
 refine⟨[],F.flatMap L9,[],(0,0),?_,ae,Er _ F,λ_=>rfl,λ_ o ho=>by simp,⟨λg z e=>(by cases e),λg e=>(by cases e)⟩⟩
 grind [cF,di,m_]
section
variable {P:Program} {b:Nat} {ops:Array Oper} {d:Bool} {acc:List Row} {os:List Oper} {o:Oper} {env:List V} {n:Nat} {L:Hp} {R:Post}
theorem RegX.lkp {r0:Bool} {dst:Option Tmp} {x ix:Operand} {tx kt et:TypeId} {t:TypeId} {pos:String} {af:Array Edge} {gd:Option (Nat×Bool)} {key:List UInt8} (r:Option Nat) (hx:ev env x=.s (.map (some i))) (hix:ev env ix=.s (.str key))
 (hl:lk L i=some {cF F with ro:=r0}) (hty:P.underlying tx=some (.map kt et)) (hd:P.underlying kt=some .string) (hz:∀ w,(zeroValue et).run P w=.ok (.int .i64 0) w) (hr:q_ F key=r)
 (hw:bf ops env ⟨dst,.lookup tx x ix true,t,pos,af,gd⟩=some true)
 (k:RegX P ops d (aE d ⟨dst,.lookup tx x ix true,t,pos,af,gd⟩ [i] [] acc) os (bg env dst (.tup [.s (.int .i64 ((r.getD 0:Nat):Int)),.s (.bool r.isSome)])) n L R):
 RegX P ops d acc (⟨dst,.lookup tx x ix true,t,pos,af,gd⟩::os) env n L R:=by
 refine RegX.op (foot:=[i]) (wr:=[]) hw (OpL.light λφ a w hop hg=>?_) (Z02 _) k;have g1:=hop x (by simp[Op.operands]);have g2:=hop ix (by simp[Op.operands]);rw[hx] at g1;rw[hix] at g2;obtain⟨b,hb,hb2,hv⟩:=g1;have g2:a.eval ix=jq key:=g2;obtain⟨b',hb',hat⟩:=hg.hr i {cF F with ro:=r0} (by rw[bJ];simp[hl]);rw[hb] at hb';cases hb';have hm:=Ee hat hb2;have hk:IsKey .string (jq key):=trivial
 have hc:=λem=>run_checkKey (P:=P) (w:=w) hd hk em 9999
 obtain⟨f1,f2⟩:=m8 (k:=key) F (List.range F.length) 0 aq
 cases r with
 |none=>
  have hf:=run_findKey (P:=P) (w:=w) hd (f2 hr);refine⟨.tuple #[.int .i64 0,.bool false],?_,[.int .i64 0,.bool false],rfl,rfl,rfl,trivial⟩;simp only[execOp,Instr.lookup,Z09,Ab.run_underlying hty,Z05,hv,Z1q hm,Z0f,g2];simp[hc,hf,hz]
 |some v=>
  obtain⟨j,hj⟩:=f1 v hr;have hf:=run_findKey (P:=P) (w:=w) hd hj;refine⟨.tuple #[.int .i64 (v:Int),.bool true],?_,[.int .i64 (v:Int),.bool true],rfl,rfl,rfl,trivial⟩;simp only[execOp,Instr.lookup,Z09,Ab.run_underlying hty,Z05,hv,Z1q hm,Z0f,g2];simp[hc,hf]
theorem tA {b:Nat×Nat} {bl bl':Bl} {ob:Obj} (hg:Good φ [(i,some bl)] w) (hb:φ i=some b) (hro:bl.ro=false) (hro':bl'.ro=false) (hat:BlAt φ {w with heap:=w.heap.setIfInBounds b.1 ob} b bl'):
 Good φ [(i,some bl')] {w with heap:=w.heap.setIfInBounds b.1 ob}/\Stp φ [(i,some bl)] w φ [(i,some bl')] {w with heap:=w.heap.setIfInBounds b.1 ob}:=by
 have one:∀ (c:Bl) j bj,lk [(i,some c)] j=some bj->j=i/\bj=c:=by
  grind [aY,lk]
 have hwr:Wr φ [(i,some bl)] b.1:=⟨i,bl,b,by simp[lk],hb,rfl,hro⟩
 refine⟨⟨?_,?_,?_,hg.gz⟩,⟨rfl,rfl,rfl,aq,?_,?_,λ_ _ h=>h,λ_ _ h=> .inl h⟩⟩
 ·grind
 ·grind
 ·intro c l hc
  obtain⟨⟨ty,fr,h1⟩,h2⟩:=hg.fz c l hc
  have hne:c≠b.1:=λe=>h2 (e▸hwr)
  refine⟨⟨ty,fr,ae⟩,?_⟩;rintro⟨j,bj,c',hj,hc',e,hr⟩
  grind
 all_goals grind [lk]
theorem RegX.mup {x ix y:Operand} {kt et:TypeId} {key:List UInt8} {z:Int} (m:Nat) (hx:ev env x=.s (.map (some i))) (hix:ev env ix=.s (.str key)) (hy:ev env y=.s (.int .i64 z)) (hm:z=(m:Int))
 (hl:lk L i=some (cF F)) (hty:P.underlying tx=some (.map kt et)) (hd:P.underlying kt=some .string) (hr:q_ F key=none)
 (hw:bf ops env ⟨dst,.mapUpdate tx x ix y,t,pos,af,gd⟩=some true)
 (k:RegX P ops d (aE d ⟨dst,.mapUpdate tx x ix y,t,pos,af,gd⟩ [i] [(i,some (cF (F++[(key,m)])))] acc) os (bg env dst .undef) n (aA L [(i,some (cF (F++[(key,m)])))]) R):
 RegX P ops d acc (⟨dst,.mapUpdate tx x ix y,t,pos,af,gd⟩::os) env n L R:=by
 subst hm;refine RegX.op (foot:=[i]) (wr:=[(i,some (cF (F++[(key,m)])))]) hw ?_ (Z02 _) k;intro φ a w Q hop hg hf
 have e1:res [i] L=[(i,some (cF F))]:=by simp[res,hl]
 have e2:aA (res [i] L) [(i,some (cF (F++[(key,m)])))]=[(i,some (cF (F++[(key,m)])))]:=by rw[e1];simp[aA,put]
 have g1:=hop x (by simp[Op.operands]);have g2:=hop ix (by simp[Op.operands]);have g3:=hop y (by simp[Op.operands]);rw[hx] at g1;rw[hix] at g2;rw[hy] at g3;obtain⟨b,hb,hb2,hv⟩:=g1;have g2:a.eval ix=jq key:=g2;have g3:a.eval y=.int .i64 (m:Int):=g3;rw[e1] at hg;obtain⟨b',hb',hat⟩:=hg.hr i (cF F) (by simp[lk]);rw[hb] at hb';cases hb';have hmap:=Ee hat hb2;have hlt:=hat.lt;have hk:IsKey .string (jq key):=trivial
 have hc:=λem=>run_checkKey (P:=P) (w:=w) hd hk em 9999
 obtain⟨_,f2⟩:=m8 (k:=key) F (List.range F.length) 0 aq;have hfn:=run_findKey (P:=P) (w:=w) hd (f2 hr)
 have hrun:(execOp a.eval ⟨dst,.mapUpdate tx x ix y,t,pos,af,gd⟩).run P w=.ok .skip {w with heap:=w.heap.setIfInBounds b.1 (.map (l7 (List.range (F++[(key,m)]).length) (F++[(key,m)])).toArray (F++[(key,m)]).length)}:=by
  simp only[execOp,Instr.mapUpdate,Z09,Ab.run_underlying hty,Z05,hv,Z1q hmap,Z0f,g2,g3,hc,hfn];rw[Z4n _ hmap];simp only[Z05,Z03,Z0n,Z3a];rw[sf _ _ _ _ aq];simp
 obtain⟨good,stp⟩:=tA (bl':=cF (F++[(key,m)])) (ob:=.map (l7 (List.range (F++[(key,m)]).length) (F++[(key,m)])).toArray (F++[(key,m)]).length) hg hb rfl rfl (FU ae hb2);unfold Oper.wp;rw[hrun,Z5w];exact⟨φ,Go.undef,rfl,rfl,ae,ae,λ_ _=>rfl⟩
theorem RegX.mkm
 (hw:bf ops env ⟨dst,.makeMap tx none,t,pos,af,gd⟩=some true)
 (k:RegX P ops d (aE d ⟨dst,.makeMap tx none,t,pos,af,gd⟩ [] [(n,some (cF []))] acc) os (bg env dst (.s (.map (some n)))) (n+1) (aA L [(n,some (cF []))]) R):
 RegX P ops d acc (⟨dst,.makeMap tx none,t,pos,af,gd⟩::os) env n L R:=by
 refine RegX.op (foot:=[]) (wr:=[(n,some (cF []))]) hw ?_ (Z3s _) k
 have e:aA (res ([]:List Nat) L) [(n,some (cF []))]=put [] n (some (cF [])):=by simp[res,aA]
 rw[e]
 refine OpL.fresh (L:=[]) (by simp[lk]) λφ a w hop _=>?_
 refine⟨.map (some w.heap.size),{w with heap:=w.heap.push (.map #[] 0)},?_,rfl,rfl,rfl,⟨_,rfl⟩,FU (F:=[]) (by simp[l7]) rfl,λφ' hn _=>⟨_,hn,rfl,rfl⟩⟩;simp[execOp,Instr.makeMap,newObj,Sem.run]
end
end
end Ab
namespace Ab
open Go
theorem OpL.conv {P:Program} {o:Oper} {env env1:List V} {n n':Nat} {M M1 M' M1':Hp} {v v1:V} (he:∀ x∈o.op.operands,VLe (ev env x) (ev env1 x)) (hM:∀ j,lk M1 j=lk M j) (hv:VLe v v1) (hM':SubF M1' M')
 (h:OpL P o env1 n M v n' M'):OpL P o env n M1 v1 n' M1':=by
 intro φ a w Q hx hg hf
 have s1:xy M M1:=λi bl hi=>by grind
 have s2:xy M1 M:=λi bl hi=>by grind
 refine Z4v ?_ (h φ a w Q (λx hxo=>he x hxo φ _ (hx x hxo)) (hg.sub s1) hf);rintro a' w' ⟨φ',x,e1,e2,g,st,hφ⟩;refine⟨φ',x,e1,hv φ' x e2,g.subF hM',⟨st.os,st.tape,st.output,st.size,λb hb hn=>st.keep b hb λhw=>hn (hw.sub s1),λj bl b hj hb hlt=>?_,st.zle,λb l hb=>?_⟩,hφ⟩
 ·obtain⟨bl0,q1,q2,_⟩:=hM' j bl hj
  grind [st.fresh]
 ·rcases st.zfr b l hb with q|q|q
  ·exact .inl q
  ·grind
  ·exact .inr (.inr (q.sub s1))
section
variable {P:Program} {b:Nat} {ops:Array Oper} {d:Bool} {acc:List Row} {os:List Oper} {o:Oper} {env:List V} {n:Nat} {L:Hp} {R:Post}
theorem gZ {dst:Option Tmp} {td tx:Tmp} {t tx' e:TypeId} {t':TypeId} {pos:String} {af:Array Edge} {gd:Option (Nat×Bool)} {dx:TypeDesc} {inf:TypeInfo} {zs:List S} {i g m w:Nat} {cs:List S} {foot:List Nat} {k:Nat} {add:List S} {D:Prop}
 (hd:env.getD td .undef=.s (.row i g m)) (hl:lk L i=fq e g w cs) (hlen:cs.length=m*w) (hne:Nat.beq td tx=false)
 (ht:P.underlying t=some (.slice e)) (htx:P.underlying tx'=some dx) (hdx:iL dx=true) (hi:P.info? e=some inf) (hz:dW P e=some zs) (hsz:inf.size=zs.length) (hw:inf.size=w) (hw0:0<w)
 (hs:gc L w k (iF (env.getD tx .undef))=some (foot,k,add,D)) (hD:D) (hk:1<=k) (hadd:add≠[]) (hnp:add.all bZ=true) (hbig:(m+k)*inf.bytes<=140737488355328) (hmax:m+k<=140737488355328)
 (hwant:bf ops env ⟨dst,.call ⟨.builtin .append,#[.tmp td,.tmp tx],#[t,tx']⟩,t',pos,af,gd⟩=some true)
 (kk:RegX P ops d (aE d ⟨dst,.call ⟨.builtin .append,#[.tmp td,.tmp tx],#[t,tx']⟩,t',pos,af,gd⟩ (i::foot) [(i,none),(n,fq e (n+1) w (cs++add))] acc) os (bg env dst (.s (.row n (n+1) (m+k)))) (n+2) (aA L [(i,none),(n,fq e (n+1) w (cs++add))]) R):
 RegX P ops d acc (⟨dst,.call ⟨.builtin .append,#[.tmp td,.tmp tx],#[t,tx']⟩,t',pos,af,gd⟩::os) env n L R:=by
 refine RegX.op (foot:=i::foot) (wr:=[(i,none),(n,fq e (n+1) w (cs++add))]) hwant ?_ aa kk
 have hnetd:td≠tx:=λh=>by subst h;rw[Z2n] at hne;cases hne
 have tdlt:td<env.length:=by
  grind
 have e1:∀ v,(env.set td v).getD td .undef=v:=λv=>by grind
 have e2:∀ v,(env.set td v).getD tx .undef=env.getD tx .undef:=λv=>by grind
 have hopr:∀ v,VLe (.s (.row i g m)) v->∀ x∈(⟨dst,.call ⟨.builtin .append,#[.tmp td,.tmp tx],#[t,tx']⟩,t',pos,af,gd⟩:Oper).op.operands,VLe (ev env x) (ev (env.set td v) x):=by
  intro v hv x hx;simp only[Op.operands,Call.operands] at hx;have hx:x=.tmp td\/x=.tmp tx:=ae
  rcases hx with rfl|rfl
  ·show VLe (env.getD td .undef) _
   rw[hd];show VLe _ ((env.set td v).getD td .undef);rw[e1];exact hv
  ·show VLe (env.getD tx .undef) ((env.set td v).getD tx .undef)
   rw[e2];exact ah _
 subst hw
 cases cs with
 |nil=>
  have hm:m=0:=by
   rcases Nat.mul_eq_zero.1 hlen.symm with h|h
   ·exact h
   ·omega
  subst hm;have hl:lk L i=none:=hl
  have h0:VLe (.s (.row i g 0)) (.s (.slc none 0 (some 0))):=by
   intro φ v hv
   rcases hv with ⟨_,rfl⟩|⟨h,_⟩
   ·exact⟨rfl,rfl,rfl⟩
   ·omega
  have hfit:cf {cells:=[],ty:=e,flat:=false} add=true:=by
   unfold cf
   refine Z0i.2 λx hx=>?_
   have:=Z0i.1 hnp x hx
   cases x<;>first|rfl|cases this
  have core:=ez (P:=P) (env:=env.set td (.s (.slc none 0 (some 0)))) (n:=n) (L:=L) (o:=⟨dst,.call ⟨.builtin .append,#[.tmp td,.tmp tx],#[t,tx']⟩,t',pos,af,gd⟩) (d:=.tmp td) (x:=.tmp tx) (fl:=false) (bi:=none) (len:=0) (bl:={cells:=[],ty:=e,flat:=false}) (C:=True) (m:=k) (m0:=k) (cs:=add) (sy:=true) (r:=0+k)
   rfl rfl rfl rfl rfl ht htx hdx hi hz hsz (by show fG P L e inf.size false ((env.set td _).getD td .undef)=_;rw[e1];simp only[fG,hz,Z2c]) (by show gc L inf.size k (iF ((env.set td _).getD tx .undef))=_;rw[e2];exact hs) trivial hD rfl rfl aq hfit (λ_=>hk) hbig hmax
  refine OpL.conv (hopr _ h0) (λj=>?_) ?_ ?_ core
  ·grind [bJ]
  ·exact VLe.s (SLe.slarow aa)
  ·intro j bl' hj
   rw[iN]
   cases hadd':([]++add:List S) with
   |nil=>grind
   |cons c tl=>
    rw[hadd'] at hj;have hj:lk (aA (res (i::foot) L) (fB (some i)++[(n,some {cells:=c::tl,ty:=e,more:=true,sym:=true,flat:=true,gh:=some (n+1,inf.size)})])) j=some bl':=hj;rw[iN] at hj;split at hj
    ·cases hj
     refine⟨_,if_pos ‹_›,rfl,λφ w b hb=>?_⟩;have e3:add=c::tl:=ae;rw[e3] at hb hnp;exact BlAt.flat (bl:={cells:=c::tl,ty:=e,more:=true,sym:=true,gh:=some (n+1,inf.size)}) hnp hb
    all_goals grind [bJ]
 |cons c tl=>
  have hm:0<m:=by
   grind
  have hl:lk L i=some {cells:=c::tl,ty:=e,more:=true,sym:=true,flat:=true,gh:=some (g,inf.size)}:=hl
  have core:=ez (P:=P) (env:=env.set td (.s (.sla i g m))) (n:=n) (L:=L) (o:=⟨dst,.call ⟨.builtin .append,#[.tmp td,.tmp tx],#[t,tx']⟩,t',pos,af,gd⟩) (d:=.tmp td) (x:=.tmp tx) (fl:=false) (bi:=some i) (len:=m) (bl:={cells:=c::tl,ty:=e,more:=true,sym:=true,flat:=true,gh:=some (g,inf.size)}) (C:=m*inf.size<=(c::tl).length) (m:=k) (m0:=k) (cs:=(c::tl)++add) (sy:=true) (r:=m+k)
   rfl rfl rfl rfl rfl ht htx hdx hi hz hsz (by show fG P L e inf.size false ((env.set td _).getD td .undef)=_;rw[e1];simp[fG,hl]) (by show gc L inf.size k (iF ((env.set td _).getD tx .undef))=_;rw[e2];exact hs) ae hD rfl rfl ae (by unfold cf;simp only;exact hnp) (λh=>by cases h) hbig hmax
  refine OpL.conv (hopr _ (VLe.s (SLe.rowsla hm))) (λj=>rfl) (VLe.s (SLe.slarow aa)) (SubF.refl _) core
end
section
variable {n':Nat} {ops:Array Oper} {d:Bool}
section
variable {P:Program} {b:Nat} {c y:Code} {env:List V} {n:Nat} {L:Hp} {R:Post}
theorem Ex.toC {env':List V} {L':Hp} (hb:b<=n') (h:To b n' env L env' L') (k:Ex P b c env' n' L' R):Ex P b c env n L R:=by
 intro φ a w h1 h2 h3 h4;obtain⟨φ1,g1,g2,g3,g4,g5⟩:=h φ φ L w w a h1 h2 (Stp.refl _ _ _);refine wp_mono (k φ1 a w g1 g2 g3 hb) ?_;rintro x a' w' ⟨φ',e,m,M,hR,k1,k2,k3,k4,k5,k6⟩;exact⟨φ',e,m,M,hR,k1,k2,k3,k4,g4.trans k5,λi hi=>(k6 i hi).trans (g5 i hi)⟩
def pT (X:List (Nat×V)):Nat->Nat->List V
 |_,0=>[]
 |i,k+1=>(match iQ X i with|some v=>v|none=> .any)::pT X (i+1) k
def xY (r:Nat->Nat) (X:List (Nat×V)):List (Nat×V):=X.map λp=>(p.1,cb r p.2)
theorem wH {r:Nat->Nat}:∀ {X:List (Nat×V)} {i:Nat},iQ (xY r X) i=(iQ X i).map (cb r)
 |[],_=>rfl
 |(j,v)::t,i=>by
  show iQ ((j,cb r v)::xY r t) i=_;simp only[iQ];split
  ·rfl
  ·exact wH (X:=t)
theorem As {r:Nat->Nat} {X:List (Nat×V)}:∀ (k i:Nat),(pT X i k).map (cb r)=pT (xY r X) i k
 |0,_=>rfl
 |k+1,i=>by
  simp only[pT,Z13,As k,wH];congr 1
  cases iQ X i<;>rfl
theorem Ea {X:List (Nat×V)}:∀ {e:List V} {i:Nat},(∀ j v,iQ X (i+j)=some v->VLe (e.getD j .undef) v)->All2 VLe e (pT X i e.length)
 |[],_,_=>trivial
 |v::e,i,h=>by
  simp only[Z04,pT];refine⟨?_,Ea λj u hj=>?_⟩
  ·have h0:=h 0
   grind [dd]
  ·have:=h (j+1) u ae
   grind
def CutOK (b N n':Nat) (X:List (Nat×V)) (H:Hp) (e:List V) (M:Hp):Prop:=
 ∃ tbl:List Nat,tbl.length=n'/\e.length=N/\XLe e (xY (rn tbl 0) X)/\MemP (rn tbl 0) M H/\ou b tbl (pT X 0 N) H=true
theorem CutOK.to {b N:Nat} {X:List (Nat×V)} {H:Hp} {e:List V} {M:Hp} (h:CutOK b N n' X H e M):To b n' e M (pT X 0 N) H/\b<=n':=by
 obtain⟨tbl,rfl,rfl,h1,h2,h3⟩:=h;refine⟨To.move tbl ?_ h2 h3,?_⟩
 ·rw[As]
  exact Ea λj v hj=>h1.at ae
 ·simp only[ou,Z07] at h3
  exact Z1y h3.2
def xC (b N n':Nat) (X:List (Nat×V)) (H:Hp):Post:=λx e m M=>x=.normal/\CutOK b N n' X H e M
theorem Ex.cut (N n':Nat) (X:List (Nat×V)) (H:Hp) {E:List V} (hE:gE (pT X 0 N) [] some=some E) (h:Ex P b c env n L (xC b N n' X H)) (k:Ex P b y E n' H R):Ex P b c env n L (Then P b y R):=by
 rw[kr] at hE;have hE:pT X 0 N=E:=Z1c hE;refine h.mono ?_;rintro x e m M ⟨rfl,hc⟩;obtain⟨h1,h2⟩:=hc.to;exact Ex.toC h2 h1 (hE▸k)
theorem Ex.cutB (id N n':Nat) (X:List (Nat×V)) (H:Hp) {E:List V} (hE:gE (pT X 0 N) [] some=some E) (h:Ex P b (.block id c) env n L (xC b N n' X H)) (k:Ex P b y E n' H R):Ex P b (.block id c) env n L (Then P b y R):=Ex.cut N n' X H hE h k
theorem Ex.cutS (id N n':Nat) (X:List (Nat×V)) (H:Hp) {E:List V} (hE:gE (pT X 0 N) [] some=some E) (h:Ex P b (.seq (.region id ops d) c) env n L (xC b N n' X H)) (k:Ex P b y E n' H R):Ex P b (.seq (.region id ops d) c) env n L (Then P b y R):=Ex.cut N n' X H hE h k
theorem Ex.cutC (t:Tmp) (N n':Nat) (X:List (Nat×V)) (H:Hp) {E:List V} {x z:Code} (hE:gE (pT X 0 N) [] some=some E) (h:Ex P b (.cond (.tmp t) x z) env n L (xC b N n' X H)) (k:Ex P b y E n' H R):Ex P b (.cond (.tmp t) x z) env n L (Then P b y R):=Ex.cut N n' X H hE h k
theorem Ex.cutBI (id N n':Nat) (X:List (Nat×V)) (H:Hp) {j:Nat} {E:List V} (hE:gE (pT X 0 N) [] some=some E) (h:Ex P b (.block id c) env n L (xC b N n' X H)) (k:Ex P b y E n' H R):Ex P b (.block id c) env n L (InBlock j (Then P b y R)):=by
 rw[kr] at hE;have hE:pT X 0 N=E:=Z1c hE;refine h.mono ?_;rintro x e m M ⟨rfl,hc⟩;obtain⟨h1,h2⟩:=hc.to;exact Ex.toC h2 h1 (hE▸k)
theorem fH {N:Nat} {X:List (Nat×V)} {H:Hp} {e:List V} {m:Nat} {M:Hp} (tbl:List Nat) (h0:tbl.length=n') (h1:e.length=N) (h2:XLe e (xY (rn tbl 0) X)) (h3:MemP (rn tbl 0) M H) (h4:ou b tbl (pT X 0 N) H=true):xC b N n' X H .normal e m M:=
 ⟨rfl,tbl,h0,h1,h2,h3,h4⟩
theorem my (tbl:List Nat) (N:Nat) (X:List (Nat×V)) (H:Hp) {E:List V} (hE:gE (pT X 0 N) [] some=some E) (h1:env.length=N) (h2:XLe env (xY (rn tbl 0) X)) (h3:MemP (rn tbl 0) L H) (h4:ou b tbl (pT X 0 N) H=true)
 (k:Ex P b c E tbl.length H R):Ex P b c env n L R:=by
 rw[kr] at hE;have hE:pT X 0 N=E:=Z1c hE;obtain⟨g1,g2⟩:=CutOK.to (n':=tbl.length) ⟨tbl,rfl,h1,h2,h3,h4⟩;exact Ex.toC g2 g1 (hE▸k)
theorem Ex.canonB (id:Nat) (tbl:List Nat) (N:Nat) (X:List (Nat×V)) (H:Hp) {E:List V} (hE:gE (pT X 0 N) [] some=some E) (h1:env.length=N) (k:Ex P b c E tbl.length H (InBlock id R)) (h2:XLe env (xY (rn tbl 0) X)) (h3:MemP (rn tbl 0) L H) (h4:ou b tbl (pT X 0 N) H=true):
 Ex P b (.block id c) env n L R:=my tbl N X H hE h1 h2 h3 h4 (Ex.block k)
theorem RegX.sto {acc:List Row} {os:List Oper} (ans:List Ans) {ty:TypeId} {x z:Operand} {t:TypeId} {pos:String} {af:Array Edge} {gd:Option (Nat×Bool)} {foot:List Nat} {v:V} {wr:Hp} {as_:List Ans} {C:Prop}
 (hw:bf ops env ⟨none,.store ty x z,t,pos,af,gd⟩=some true) (h:GA P ⟨none,.store ty x z,t,pos,af,gd⟩ env n L ans=some ⟨⟨foot,v,wr,n'⟩,as_,C⟩) (hC:C)
 {L':Hp} (hL:l6 (aA L wr) [] some=some L')
 (k:RegX P ops d (aE d ⟨none,.store ty x z,t,pos,af,gd⟩ foot wr acc) os env n' L' R):RegX P ops d acc (⟨none,.store ty x z,t,pos,af,gd⟩::os) env n L R:=by
 rw[cO] at hL;cases hL;exact mo ans hw h hC k
theorem gG {acc:List Row} {os:List Oper} (ans:List Ans) {dst:Option Tmp} {ty:TypeId} {x:Operand} {t:TypeId} {pos:String} {af:Array Edge} {gd:Option (Nat×Bool)} {foot:List Nat} {v:V} {as_:List Ans} {C:Prop}
 (hw:bf ops env ⟨dst,.load ty x,t,pos,af,gd⟩=some true) (h:GA P ⟨dst,.load ty x,t,pos,af,gd⟩ env n L ans=some ⟨⟨foot,v,[],n⟩,as_,C⟩) (hC:C)
 {env':List V} (he:gE (bg env dst v) [] some=some env')
 (k:RegX P ops d (aE d ⟨dst,.load ty x,t,pos,af,gd⟩ foot [] acc) os env' n L R):RegX P ops d acc (⟨dst,.load ty x,t,pos,af,gd⟩::os) env n L R:=by
 rw[kr] at he;cases he;exact mo ans hw h hC k
end
end
section
variable {i N:Nat} {bl:Bl}
theorem AG {φ:Ph} {L:Hp} {w:World} (h2:Good φ L w) (get:Nat->List S) (sz:Nat) (hl:lk L i=some bl) (hro:bl.ro=false) (hk:bl.kind=none)
 (hg:∀ k,k<N->(get k).length=sz) (hc:∀ k j x,k<N->(get k)[j]? =some x->bl.cells[k*sz+j]? =some x/\bL x=true):
 ∃ φ':Ph,φ'.f=φ.f/\φ.le φ'/\(∀ b l,φ'.z b=some l->φ.z b=some l\/Wr φ L b)/\Good φ' (put L i none) w/\(∀ v x,dQ v=some (i,N)->Vr φ v x->Vr φ' (.s (.frz get sz N)) x):=by
 obtain⟨b0,hb0,pre,xs,rest,fr,p1,hp,p2,p3,p4,p5⟩:=h2.hr i bl hl;rw[hk] at p1;simp only[di] at p1
 let φ':Ph:=⟨φ.f,λx=>if x=b0.1 then some (pre++(xs++rest)) else φ.z x⟩
 have hz0:φ.z b0.1=none:=by
  cases e:φ.z b0.1 with
  |none=>rfl
  |some l=>exact absurd ⟨i,bl,b0,hl,hb0,rfl,hro⟩ (h2.fz b0.1 l e).2
 have zle:∀ x l,φ.z x=some l->φ'.z x=some l:=by
  grind
 have hle:φ.le φ':=⟨λ_ _ h=>h,zle⟩
 have hlt:b0.1<w.heap.size:=by
  grind
 have sub:xy (put L i none) L:=by
  intro j bj hj
  grind [aC]
 have good':Good φ' (put L i none) w:=by
  refine⟨λj bj hj=>?_,λj j' bj bj' c c' hj hj' hc hc' hcc=>h2.inj j j' bj bj' c c' (sub j bj hj) (sub j' bj' hj') hc hc' hcc,λx l hx=>?_,h2.gz.mono zle⟩
  ·obtain⟨c,hc,hat⟩:=h2.hr j bj (sub j bj hj)
   exact⟨c,hc,hat.mono hle rfl⟩
  ·by_cases e:x=b0.1
   ·subst e
    simp only[φ',if_true,Z06] at hx;subst hx;refine⟨⟨bl.ty,fr,p1⟩,?_⟩;rintro⟨j,bj,c,hj,hc,hcb,hroj⟩;have hj':=sub j bj hj
    rcases h2.inj j i bj bl c b0 hj' hl hc hb0 hcb with rfl|⟨e,_⟩
    all_goals grind [aC]
   ·simp only[φ',if_neg e] at hx
    exact⟨(h2.fz x l hx).1,λhw=>(h2.fz x l hx).2 (Wr.sub sub (by obtain⟨j,bj,c,hj⟩:=hw;exact⟨j,bj,c,hj⟩))⟩
 have hfz:∀ m kk,m<=N->m<=kk->Sr φ' (.frz get sz m) (.slice (some ⟨b0.1,b0.2,none⟩) m kk):=by
  intro m kk hm hmk;refine .frz get sz m b0.1 b0.2 kk (pre++(xs++rest)) ae hmk (λk j=>xs.getD (k*sz+j) Go.undef) (λk hk=>hg k aa) (λk j x hk hx=>?_) (λk j x hk hx=>?_)
  ·obtain⟨e,_⟩:=hc k j x aa hx
   obtain⟨v,hv,_⟩:=p2.get e
   have hlx:k*sz+j<xs.length:=by
    rcases Z0a (k*sz+j) xs.length with h|h
    ·exact h
    ·simp[Z0b h] at hv
   rw[Z4k b0.2,iJ pre _ hp,Z0x hlx,Z00,hv];rfl
  ·obtain⟨e,hpx⟩:=hc k j x aa hx
   obtain⟨v,hv,hs⟩:=p2.get e;rw[Z00,hv,Z22];exact ((hs.mono (bl.ph_le_self φ)).mono hle).pr hpx
 refine⟨φ',rfl,hle,λx l hx=>?_,good',λv x ht hv=>?_⟩
 ·by_cases e:x=b0.1
  ·subst e;exact .inr ⟨i,bl,b0,hl,hb0,rfl,hro⟩
  all_goals grind
 ·unfold dQ at ht
  split at ht
  ·cases ht
   obtain⟨b1,kk,hb1,_,e,hmk⟩:=hv;rw[hb0] at hb1;cases hb1;rw[e];exact hfz _ kk (Z02 _) hmk
  ·cases ht
   obtain⟨b1,kk,hb1,e,hmk,_⟩:=hv;rw[hb0] at hb1;cases hb1;rw[e,Z0c];exact hfz _ kk (Z02 _) hmk
  ·cases ht
   rcases hv with ⟨rfl,e⟩|⟨_,b1,kk,hb1,_,e,hmk⟩
   ·rw[e];exact .nil _ _ _ _ (λ_=>rfl)
   ·rw[hb0] at hb1;cases hb1
    rw[e];exact hfz _ kk (Z02 _) hmk
  ·cases ht
theorem OpL.preFz {P:Program} {o:Oper} {env:List V} {n n':Nat} {M M':Hp} {v:V} (t:Nat) (get:Nat->List S) (sz:Nat) (ht:dQ (env.getD t .undef)=some (i,N)) (hl:lk M i=some bl) (hro:bl.ro=false) (hk:bl.kind=none)
 (hg:∀ k,k<N->(get k).length=sz) (hc:∀ k j x,k<N->(get k)[j]? =some x->bl.cells[k*sz+j]? =some x/\bL x=true)
 (h:OpL P o (env.set t (.s (.frz get sz N))) n (put M i none) v n' M'):OpL P o env n M v n' M':=by
 intro φ a w Q hx hM hf;obtain⟨φ',e1,hle,hz,hg',hs⟩:=AG hM get sz (i:=i) (N:=N) hl hro hk hg hc
 have sub:xy (put M i none) M:=by
  intro j bj hj
  grind [aC]
 have wsub:∀ b,Wr φ' (put M i none) b->Wr φ M b:=λb hw=>by
  obtain⟨j,bj,c,hj,hc,h⟩:=hw;exact⟨j,bj,c,sub _ _ hj,ae,h⟩
 have tlt:t<env.length:=by
  rcases Z0a t env.length with h|h
  ·exact h
  ·rw[Z00,Z0b h] at ht;cases ht
 have hx':∀ x∈o.op.operands,Vr φ' (ev (env.set t (.s (.frz get sz N))) x) (a.eval x):=by
  intro x hxo;have h0:=hx x hxo;by_cases e:x=.tmp t
  ·subst e
   have e2:ev (env.set t (.s (.frz get sz N))) (.tmp t)=.s (.frz get sz N):=by
    show (env.set t _).getD t .undef=_
    grind
   rw[e2];exact hs _ _ ht h0
  ·have e2:ev (env.set t (.s (.frz get sz N))) x=ev env x:=by
    cases x with
    |tmp s=>
     have hne: ¬t=s:=λh=>e (by rw[h])
     show (env.set t _).getD s .undef=env.getD s .undef
     grind
    |_=>rfl
   rw[e2];exact Vr.mono hle h0
 refine Z4v ?_ (h φ' a w Q hx' hg' (λj h1 h2=>by grind));rintro a' w' ⟨φ2,x,q1,q2,q3,q4,q5⟩;refine⟨φ2,x,q1,q2,q3,⟨q4.os,q4.tape,q4.output,q4.size,λb hb hn=>q4.keep b hb λhw=>hn (wsub b hw),λj bl1 b hj hb hlt=>?_,λb l hb=>q4.zle b l (hle.z b l hb),λb l hb=>?_⟩,λj hj=>(q5 j hj).trans (by rw[e1])⟩
 ·obtain⟨k,bl',c,hk',hc',r⟩:=q4.fresh j bl1 b hj hb hlt
  exact⟨k,bl',c,sub _ _ hk',ae,r⟩
 ·rcases q4.zfr b l hb with q|q|q
  all_goals grind
section
variable {P:Program} {ops:Array Oper} {d:Bool} {acc:List Row} {os:List Oper} {o:Oper} {env:List V} {n:Nat} {L:Hp} {R:Post} {f:FuncId} {xs:Array Operand}
theorem CD (t:Nat) (get:Nat->List S) (sz:Nat) {args:List V} {v:V} (sc:FC P f args 0 [] v 0 []) (ht:dQ (env.getD t .undef)=some (i,N)) (hl:lk L i=some bl) (hro:bl.ro=false) (hk:bl.kind=none)
 (hg:∀ k,k<N->(get k).length=sz) (hc:∀ k j x,k<N->(get k)[j]? =some x->bl.cells[k*sz+j]? =some x/\bL x=true)
 {args1:List V} (ha:xs.toList.map (ev (env.set t (.s (.frz get sz N))))=args1) (hle:All2 VLe args1 args) (h1:args.all (fI 0)=true) (h2:fI 0 v=true)
 (hw:bf ops env o=some true) (k:RegX P ops d (aE d o [i] [(i,none)] acc) os (bg env o.dst v) n (aA L [(i,none)]) R):CallG P ops d acc o f xs os env n L R:=by
 refine⟨λ⟨ts,ho⟩=>?_⟩;obtain⟨hf,sc⟩:=sc;unfold oz at hf;split at hf
 ·rename_i fn hfn
  simp only[Z07,Z0v] at hf;have h:=SC.opW (tbl:=[]) (n:=n) (env:=env.set t (.s (.frz get sz N))) (M:=[]) (M':=[]) sc h1 rfl ho rfl hfn hf.1 hf.2 (by rw[ha,vz h1];exact hle) wI (λx bl h=>by grind);rw[oF h2] at h
  have e1:lk (res [i] L) i=some bl:=by rw[bJ];simp[hl]
  refine RegX.op (foot:=[i]) (wr:=[(i,none)]) hw ?_ (Z02 _) k;refine OpL.preFz t get sz ht e1 hro hk hg hc ?_;refine OpL.conv (M:=[]) (M':=[]) (λx hx=>ah _) (λj=>?_) (ah _) (λj bl hj=>?_) h
  ·show lk (put (res [i] L) i none) j=lk [] j
   rw[aC,bJ];simp only[Z0m];by_cases e:i=j
   ·rw[if_pos e];rfl
   ·rw[if_neg e,if_neg (λh=>e h.symm)];rfl
  ·have hj:lk (put (res [i] L) i none) j=some bl:=hj
   grind [aC,bJ]
 ·cases hf
end
end
section
variable {P:Program} {ops:Array Oper} {d:Bool} {acc:List Row} {os:List Oper} {o:Oper} {env:List V} {n:Nat} {L:Hp} {R:Post} {f:FuncId} {xs:Array Operand}
theorem Zgp {α:Type} (g:α->S) (dflt:α) (K:List α) (hp:∀ r∈K,bL (g r)=true) {args:List V} {v:V} (sc:FC P f args 0 [] v 0 []) {t:Tmp} (hx:xs.toList.getLast? =some (.tmp t)) {i N:Nat} {bl:Bl} (ht:dQ (env.getD t .undef)=some (i,N)) (hl:lk L i=some bl) (hro:bl.ro=false) (hk:bl.kind=none)
 (hN:N=K.length) (hc:bl.cells=K.map g)
 {args1:List V} (ha:xs.toList.map (ev (env.set t (.s (.frz (λk=>[g (K.getD k dflt)]) 1 K.length))))=args1) (hle:All2 VLe args1 args) (h1:args.all (fI 0)=true) (h2:fI 0 v=true)
 (hw:bf ops env o=some true) (k:RegX P ops d (aE d o [i] [(i,none)] acc) os (bg env o.dst v) n (aA L [(i,none)]) R):CallG P ops d acc o f xs os env n L R:=by
 subst hN;refine CD t (λk=>[g (K.getD k dflt)]) 1 sc ht hl hro hk (λ_ _=>rfl) (λkk jj x hkk hjx=>?_) ha hle h1 h2 hw k
 grind
theorem gB {α:Type} (g:α->S) (dflt:α) (K:List α) {args:List V} {v:V} (sc:FC P f args 0 [] v 0 []) {t:Tmp} {i N:Nat} {bl:Bl} {args1:List V} (k:RegX P ops d (aE d o [i] [(i,none)] acc) os (bg env o.dst v) n (aA L [(i,none)]) R) (hp:∀ r∈K,bL (g r)=true:=by exact λ_ _=>rfl) (hx:xs.toList.getLast? =some (.tmp t):=by exact rfl) (ht:dQ (env.getD t .undef)=some (i,N):=by exact rfl) (hl:lk L i=some bl:=by exact rfl) (hro:bl.ro=false:=by exact rfl) (hk:bl.kind=none:=by exact rfl)
 (hN:N=K.length:=by (first|rfl|simp);first|done|fail) (hc:bl.cells=K.map g:=by (first|rfl|(simp;first|done|fail)|(rw[Z0d];rfl));first|done|fail) (ha:xs.toList.map (ev (env.set t (.s (.frz (λk=>[g (K.getD k dflt)]) 1 K.length))))=args1:=by exact rfl) (hle:All2 VLe args1 args:=by (repeat first|exact trivial|refine⟨ah _,?_⟩);first|done|fail) (h1:args.all (fI 0)=true:=by exact rfl) (h2:fI 0 v=true:=by exact rfl) (hw:bf ops env o=some true:=by exact rfl):CallG P ops d acc o f xs os env n L R:=Zgp g dflt K hp sc hx ht hl hro hk hN hc ha hle h1 h2 hw k
end
section
variable {P:Program} {ops:Array Oper} {d:Bool} {acc:List Row} {os:List Oper} {o:Oper} {env:List V} {n:Nat} {L:Hp} {R:Post} {f:FuncId} {xs:Array Operand}
theorem CallG.mz {α:Type} (q:Nat) (g:α->S) (dflt:α) (K:List α) (hp:∀ r∈K,bL (g r)=true) (tbl:List Nat) {args0:List V} {L0:Hp} {v0:V} {n0':Nat} {L0':Hp} (sc:FC P f args0 tbl.length L0 v0 n0' L0')
 {t:Tmp} (hx:xs.toList[q]? =some (.tmp t)) {i N:Nat} {bl:Bl} (ht:dQ (env.getD t .undef)=some (i,N)) (hl:lk L i=some bl) (hro:bl.ro=false) (hk:bl.kind=none) (hN:N=K.length) (hc:bl.cells=K.map g)
 (hchk:(args0.all (fI tbl.length)&&fg tbl.length L0&&ep L0 L0'&&co (bP L0')&&Nat.ble tbl.length n0'&&qW tbl n n0'&&ry tbl L0)=true) {args1:List V} (ha:xs.toList.map (ev (env.set t (.s (.frz (λk=>[g (K.getD k dflt)]) 1 K.length))))=args1) (hle:All2 VLe args1 (args0.map (cb (rn tbl n)))) (ft:FitP tbl n (put (res (i::tbl) L) i none) L0)
 (hw:bf ops env o=some true) {v:V} (hv:jg (cb (rn tbl n) v0) some=some v) {wr:Hp} (hwr:l6 (cj tbl n L0 L0') [] some=some wr)
 (k:RegX P ops d (aE d o (i::tbl) ((i,none)::wr) acc) os (bg env o.dst v) (n+(n0'-tbl.length)) (aA L ((i,none)::wr)) R):CallG P ops d acc o f xs os env n L R:=by
 subst hN;refine⟨λ⟨ts,ho⟩=>?_⟩;obtain⟨hf,sc⟩:=sc;rw[fh] at hv;cases hv;rw[cO] at hwr;cases hwr;simp only[Z07] at hchk;obtain⟨⟨⟨⟨⟨⟨k1,k2⟩,k3⟩,k4⟩,k5⟩,k6⟩,k7⟩:=hchk;unfold oz at hf;split at hf
 ·rename_i fn hfn
  simp only[Z07,Z0v] at hf;have h:=SC.opW (n:=n) (env:=env.set t (.s (.frz (λk=>[g (K.getD k dflt)]) 1 K.length))) (M:=put (res (i::tbl) L) i none) sc k1 k2 ho rfl hfn hf.1 hf.2 (ha▸hle) (Fits.of k6 k7 ft) (fS k3 k4)
  have e1:lk (res (i::tbl) L) i=some bl:=by rw[bJ];simp[hl]
  refine RegX.op (foot:=i::tbl) (wr:=(i,none)::cj tbl n L0 L0') hw ?_ (Z1o _ _) k;refine OpL.preFz t (λk=>[g (K.getD k dflt)]) 1 ht e1 hro hk (λ_ _=>rfl) (λkk jj x hkk hjx=>?_) h
  grind
 ·cases hf
end
theorem fE {α β:Type} {r:α->β->Prop}:∀ {l:List α} {xs:List β} {o:Nat} {v:α},All2 r l xs->(∀ x,xs[o]? =some x->r v x)->All2 r (l.set o v) xs
 |[],[],_,_,_,_=>trivial
 |[],_::_,_,_,h,_=>h.elim
 |_::_,[],_,_,h,_=>h.elim
 |a::l,x::xs,0,v,h,hv=>⟨hv x rfl,h.2⟩
 |a::l,x::xs,o+1,v,h,hv=>⟨h.1,fE h.2 λy hy=>hv y ae⟩
theorem gO {α β:Type} {r:α->β->Prop}:∀ {l:List α} {xs:List β} {o:Nat} {s:α} {x:β},All2 r l xs->l[o]? =some s->xs[o]? =some x->r s x
 |[],_,_,_,_,_,h,_=>by grind
 |_::_,[],_,_,_,h,_,_=>h.elim
 |a::l,x::xs,0,s,y,h,h1,h2=>by
  simp only[Z11,Z06] at h1 h2;subst h1;subst h2;exact h.1
 |a::l,x::xs,o+1,s,y,h,h1,h2=>gO h.2 (by simpa using h1) ae
section
variable {P:Program} {b:Nat} {env:List V} {n:Nat} {L:Hp} {R:Post} {c:Code}
theorem Ex.fzC (j o:Nat) (get:Nat->List S) (sz:Nat) {s:S} {i N:Nat} {bl blj:Bl} (hlj:lk L j=some blj) (hij:i≠j) (hs:blj.cells[o]? =some s) (ht:dQ (.s s)=some (i,N)) (hl:lk L i=some bl) (hro:bl.ro=false) (hk:bl.kind=none)
 (hg:∀ k,k<N->(get k).length=sz) (hc:∀ k j x,k<N->(get k)[j]? =some x->bl.cells[k*sz+j]? =some x/\bL x=true)
 {L':Hp} (hL:put (put L i none) j (some {blj with cells:=blj.cells.set o (.frz get sz N)})=L') (k:Ex P b c env n L' R):Ex P b c env n L R:=by
 subst hL;intro φ a w h1 h2 h3 h4;obtain⟨φ',e1,hle,hz,hg',hsl⟩:=AG h2 get sz (i:=i) (N:=N) hl hro hk hg hc
 have hlj':lk (put L i none) j=some blj:=by rw[aC,if_neg hij];exact hlj
 have sub1:∀ jj b',lk (put (put L i none) j (some {blj with cells:=blj.cells.set o (.frz get sz N)})) jj=some b'->∃ b0,lk (put L i none) jj=some b0/\b'.ro=b0.ro:=by
  grind [aC]
 have subL:∀ jj b',lk (put L i none) jj=some b'->lk L jj=some b':=by
  grind [aC]
 have wr1:∀ x,Wr φ' (put (put L i none) j (some {blj with cells:=blj.cells.set o (.frz get sz N)})) x->Wr φ' (put L i none) x:=by
  rintro x ⟨jj,bj,c,h1,h2,h3,h4⟩;obtain⟨b0,q1,q2⟩:=sub1 jj bj h1;exact⟨jj,b0,c,q1,h2,h3,q2▸h4⟩
 have wrL:∀ x,Wr φ' (put L i none) x->Wr φ L x:=by
  rintro x ⟨jj,bj,c,h1,h2,h3,h4⟩;exact⟨jj,bj,c,subL _ _ h1,ae,h3,h4⟩
 have good2:Good φ' (put (put L i none) j (some {blj with cells:=blj.cells.set o (.frz get sz N)})) w:=by
  refine⟨λjj bj hj=>?_,λx y bx bl' b1 b2 hx hy hb1 hb2 e=>?_,λx l hx=>⟨(hg'.fz x l hx).1,λhw=>(hg'.fz x l hx).2 (wr1 x hw)⟩,hg'.gz⟩
  ·rw[aC] at hj
   split at hj
   ·rename_i e;subst e;cases hj
    obtain⟨b0,hb0,pre,xs,rest,fr,p1,p2,p3,p4,p5,p6,p7⟩:=h2.hr j blj hlj;refine⟨b0,hle _ _ hb0,pre,xs,rest,fr,p1,p2,?_,p4,p5,λg z e=>?_,p7⟩
    ·refine fE (p3.mono λ_ _=>Sr.mono (blj.ph_le hle)) λx hx=>?_
     have hx3:Vr φ (.s s) x:=(gO p3 hs hx).mono (blj.ph_le_self φ);have hf:Pr φ'.z (.frz get sz N) x:=hsl (.s s) x ht hx3;show Pr (blj.ph φ').z (.frz get sz N) x;rw[Bl.ph_z];exact hf
    all_goals grind
   ·exact hg'.hr jj bj hj
  ·obtain⟨x0,q1,q2⟩:=sub1 x bx hx
   obtain⟨y0,r1,r2⟩:=sub1 y bl' hy
   grind [hg'.inj]
 refine wp_mono (k φ' a w ⟨h1.1,h1.2.mono λ_ _=>Vr.mono hle⟩ good2 (λi hi=>by grind) h4) ?_;rintro x a' w' ⟨φ2,e,m,M,hR,k1,k2,k3,k4,k5,k6⟩
 have back:∀ jj b',lk (put (put L i none) j (some {blj with cells:=blj.cells.set o (.frz get sz N)})) jj=some b'->∃ b0,lk L jj=some b0/\b'.ro=b0.ro:=by
  grind
 refine⟨φ2,e,m,M,hR,k1,k2,k3,k4,⟨k5.os,k5.tape,k5.output,k5.size,λd hd hn=>k5.keep d hd λhw=>hn (wrL d (wr1 d hw)),λjj bl1 d hj hd hlt'=>?_,λx l hx=>k5.zle x l (hle.z x l hx),λx l hx=>?_⟩,λi hi=>by grind⟩
 ·grind [k5.fresh]
 ·rcases k5.zfr x l hx with q|q|q
  all_goals grind
end
