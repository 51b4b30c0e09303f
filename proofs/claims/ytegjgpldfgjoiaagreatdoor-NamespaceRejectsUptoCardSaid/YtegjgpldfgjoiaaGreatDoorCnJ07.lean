import Derived.Test.YtegjgpldfgjoiaaGreatDoorCnJ06
import Derived.Laws.StructEq
import Derived.Laws.IdiomStrings
import Derived.Laws.Append
set_option linter.all false
namespace Go.Proofs.YtegjgpldfgjoiaaGreatDoor
namespace Ab
open Go
section
variable {n:Nat} {φ:Ph} {P:Program} {ans:List Ans} {L:Hp} {v:Value} {w:World} {t:TypeId} {env:List V} {x:Operand} {out:Out} {o:Oper}
def EZ:Tm->Tm->Bool
 | .v i,.v j=>Nat.beq i j
 | .c i,.c j=>Nat.beq i j
 | .bin o k a b,.bin o' k' a' b'=>match o==o'&&Ll k k' with|true=>(match EZ a a' with|true=>EZ b b'|false=>false)|false=>false
 |_,_=>false
theorem tW:∀ {a b:Tm},EZ a b=true->a=b
 | .v i,.v j,h=>by rw[Z0q h]
 | .c i,.c j,h=>by rw[Z0q h]
 | .bin o k a b,.bin o' k' a' b',h=>by
   simp only[EZ] at h;split at h
   ·rename_i h1
    simp only[Z07] at h1;have e1:=eq_of_beq h1.1;have e2:=tJ h1.2;split at h
    ·rename_i h2
     rw[e1,e2,tW h2,tW h]
    ·cases h
   ·cases h
 | .v _,.c _,h=>by cases h
 | .v _,.bin ..,h=>by cases h
 | .c _,.v _,h=>by cases h
 | .c _,.bin ..,h=>by cases h
 | .bin ..,.v _,h=>by cases h
 | .bin ..,.c _,h=>by cases h
def knO (x:S):Option (IntKind×Tm×Kn):=
 match x with
 | .opq k t K=>some (k,t,K)
 | .int k z=>match DZ z with|some n=>some (k,.c n,⟨n,n,none⟩)|none=>none
 |_=>none
theorem BQ {z:Int} (h:DZ z=some n):z=(n:Int):=by cases z<;>simp[DZ] at h;subst h;rfl
theorem Es {x:S} {k:IntKind} {t:Tm} {K:Kn} (h:knO x=some (k,t,K)) (hr:Sr φ x v):∃ z:Nat,t.ev φ=some z/\K.ok z/\v=.int k ((z:Nat):Int):=by
 unfold knO at h;split at h
 ·cases h;exact hr
 ·split at h
  ·rename_i hn
   cases h;have:=BQ hn;subst this;exact⟨_,rfl,⟨Z02 _,Z02 _,λd r hc=>by cases hc⟩,hr⟩
  ·cases h
 ·cases h
def eqK (t t':Tm) (K K':Kn):Option Bool:=
 match Nat.blt K.hi K'.lo||Nat.blt K'.hi K.lo with
 |true=>some false
 |false=>
  match EZ t t' with
  |true=>some true
  |false=>match Nat.beq K.lo K.hi&&Nat.beq K'.lo K'.hi&&Nat.beq K.lo K'.lo with|true=>some true|false=>none
theorem KF {t t':Tm} {K K':Kn} {b:Bool} {z z':Nat} (h:eqK t t' K K'=some b) (h1:t.ev φ=some z) (h2:t'.ev φ=some z') (k1:K.ok z) (k2:K'.ok z'):b=decide (z=z'):=by
 unfold eqK at h;have p1:=k1.1;have p2:=k1.2.1;have p3:=k2.1;have p4:=k2.2.1;split at h
 ·grind [bd]
 ·split at h
  ·grind [tW]
  ·split at h
   ·rename_i hc
    cases h;simp only[Z07] at hc;have a1:=Z0q hc.1.1;have a2:=Z0q hc.1.2;have a3:=Z0q hc.2
    grind
   ·cases h
def H2 (x y:S):Option Bool:=
 match knO x,knO y with
 |some (k,t,K),some (k',t',K')=>match Ll k k' with|true=>eqK t t' K K'|false=>none
 |_,_=>none
def tY (P:Program) (t:TypeId) (x y:Option S):Option Bool:=
 match x,y with
 |some (.int k a),some (.int k' b)=>match P.underlying t with|some (.int _)=>(match Ll k k' with|true=>some (a==b)|false=>none)|_=>none
 |some (.bool a),some (.bool b)=>match lW P t with|true=>some (a==b)|false=>none
 |some (.str a),some (.str b)=>match P.underlying t with|some .string=>some (decide (a=b))|_=>none
 |some (.opq k a K),some y=>match P.underlying t with|some (.int _)=>H2 (.opq k a K) y|_=>none
 |some x,some (.opq k a K)=>match P.underlying t with|some (.int _)=>H2 x (.opq k a K)|_=>none
 |_,_=>none
theorem AM {x y:S} {r:Bool} {u:Value} (h:H2 x y=some r) (hx:Sr φ x u) (hy:Sr φ y v):∃ k a b,u=.int k a/\v=.int k b/\(a==b)=r:=by
 unfold H2 at h;split at h
 ·rename_i k t K k' t' K' h1 h2
  split at h
  ·rename_i hk
   have:=tJ hk;subst this;obtain⟨z,e1,e2,e3⟩:=Es h1 hx;obtain⟨z',f1,f2,f3⟩:=Es h2 hy;refine⟨_,_,_,e3,f3,?_⟩;rw[KF h e1 f1 e2 f2];by_cases e:z=z'
   ·subst e;simp
   ·have: ¬((z:Int)=(z':Int)):=aa
    simp[e,this]
  ·cases h
 ·cases h
def Ca (P:Program) (xs ys:List S):List Field->Option Bool
 |[]=>some true
 |f::fs=>
  match f.name == "_" with
  |true=>none
  |false=>match tY P f.type xs[f.offset]? ys[f.offset]?,Ca P xs ys fs with|some a,some b=>some (a&&b)|_,_=>none
theorem r_ {x y:Option S} {r:Bool} (h:tY P t x y=some r) {xs ys:List Value} {o:Nat} {xl yl:List S} (hx:All2 (Sr φ) xl xs) (hy:All2 (Sr φ) yl ys)
 (ex:xl[o]? =x) (ey:yl[o]? =y) (d:Nat):∃ a b,(part t xs.toArray o).run P w=.ok a w/\(part t ys.toArray o).run P w=.ok b w/\(Op.equalIn (d+1) t a b).run P w=.ok r w:=by
 have pt:∀ {l:List S} {vs:List Value} {s:S} {td:TypeDesc},All2 (Sr φ) l vs->l[o]? =some s->P.underlying t=some td->(∀ fs,td≠.struct fs)->(∀ n e,td≠.array n e)->∃ v,(part t vs.toArray o).run P w=.ok v w/\Sr φ s v:=by
  intro l vs s td ha hs ht h1 h2;obtain⟨v,hv,hr⟩:=ha.get hs;refine⟨v,?_,hr⟩
  have hag:(isAgg t).run P w=.ok false w:=by
   simp only[isAgg,Z09,Ab.run_underlying ht,Z05]
   cases td<;>first|rfl|exact absurd rfl (h1 _)|exact absurd rfl (h2 _ _)
  simp[part,hag,hv]
 unfold tY at h;split at h
 ·rename_i k a k' b
  split at h
  ·rename_i kd hty
   split at h
   ·rename_i hk
    have:=tJ hk;subst this;cases h;obtain⟨u,hu,ru⟩:=pt hx ex hty (λ_=>by simp) (λ_ _=>by simp);obtain⟨v,hv,rv⟩:=pt hy ey hty (λ_=>by simp) (λ_ _=>by simp);simp only[Sr] at ru rv;subst ru;subst rv;exact⟨_,_,hu,hv,run_equalIn_int w d t _ kd _ _ hty⟩
   ·cases h
  ·cases h
 ·split at h
  ·rename_i hb
   unfold lW at hb;split at hb
   ·rename_i hty
    cases h;obtain⟨u,hu,ru⟩:=pt hx ex hty (λ_=>by simp) (λ_ _=>by simp);obtain⟨v,hv,rv⟩:=pt hy ey hty (λ_=>by simp) (λ_ _=>by simp);simp only[Sr] at ru rv;subst ru;subst rv;exact⟨_,_,hu,hv,rZ d hty _ _⟩
   ·cases hb
  ·cases h
 ·split at h
  ·rename_i hty
   cases h;obtain⟨u,hu,ru⟩:=pt hx ex hty (λ_=>by simp) (λ_ _=>by simp);obtain⟨v,hv,rv⟩:=pt hy ey hty (λ_=>by simp) (λ_ _=>by simp)
   grind [Sr,run_equalIn_string,Ab.toList_mk]
  ·cases h
 ·split at h
  ·rename_i kd hty
   obtain⟨u,hu,ru⟩:=pt hx ex hty (λ_=>by simp) (λ_ _=>by simp);obtain⟨v,hv,rv⟩:=pt hy ey hty (λ_=>by simp) (λ_ _=>by simp)
   grind [run_equalIn_int,AM]
  ·cases h
 ·split at h
  ·rename_i kd hty
   obtain⟨u,hu,ru⟩:=pt hx ex hty (λ_=>by simp) (λ_ _=>by simp);obtain⟨v,hv,rv⟩:=pt hy ey hty (λ_=>by simp) (λ_ _=>by simp)
   grind [run_equalIn_int,AM]
  ·cases h
 ·cases h
theorem tX {P:Program} {φ:Ph} {w:World} {xl yl:List S} {xs ys:List Value} (hx:All2 (Sr φ) xl xs) (hy:All2 (Sr φ) yl ys) (d:Nat):∀ {fs:List Field} {r:Bool},Ca P xl yl fs=some r->(Op.eqFields (d+1) xs.toArray ys.toArray fs).run P w=.ok r w
 |[],r,h=>by simp[Ca] at h;subst h;rfl
 |f::fs,r,h=>by
  simp only[Ca] at h;split at h
  ·cases h
  ·rename_i hn
   have hn : f.name ≠ "_" := ae
   split at h
   ·rename_i a b h1 h2
    cases h;obtain⟨u,v,hu,hv,he⟩:=r_ (w:=w) h1 hx hy rfl rfl d;have ih:=tX (w:=w) hx hy d h2;simp only[Op.eqFields,if_pos hn,Z09,hu,hv,he,Z05]
    cases a with
    |false=>simp
    |true=>grind
   ·cases h
def Ga (P:Program) (op:BinOp) (t:TypeId) (xl yl:List S) (ans:List Ans):SO:=
 match P.underlying t with
 |some (.struct fs)=>
  match Ca P xl yl fs.toList with
  |some b=>match xu op b ans with|some (s,as_,C)=>some (s,as_,(P.stoodInHeld t=false/\P.eqGuardType P.depth t=false)/\C)|none=>none
  |none=>none
 |_=>none
def Bm (P:Program) (op:BinOp) (t:TypeId) (x y:V) (ans:List Ans):SO:=
 match x,y with
 | .agg l,.agg l'=>Ga P op t l l' ans
 |x,y=>K7 P op t x y ans
theorem Gf {op:BinOp} {x y:V} {s:S} {as_:List Ans} {C:Prop} (h:Bm P op t x y ans=some (s,as_,C)) (hC:C)
 {ox oy:Operand} {u v:Value} (hu:Vr φ x u) (hv:Vr φ y v):xx P φ (do eqGuard op t ox oy u v;binOp op t u v) s:=by
 unfold Bm at h;split at h
 ·obtain⟨xs,rfl,hx⟩:=hu
  obtain⟨ys,rfl,hy⟩:=hv;unfold Ga at h;split at h
  ·rename_i fs hty
   split at h
   ·rename_i b hb
    split at h
    ·rename_i s' as' C' he
     simp only[Z06,Z0j] at h;obtain⟨rfl,rfl,rfl⟩:=h;obtain⟨⟨c1,c2⟩,c3⟩:=hC
     have hfs:P.fieldsOf t=fs:=by simp[Program.fieldsOf,hty]
     have hq:∀ w,(Op.equal t (.agg xs.toArray) (.agg ys.toArray)).run P w=.ok b w:=by
      grind [run_equalIn_struct,B_,tX]
     intro w;obtain⟨r,h1,h2⟩:=kA (P:=P) (t:=t) (x:=.agg xs.toArray) (y:=.agg ys.toArray) he c3 hq (λw=>by simp only[binOp]) (λw=>by simp only[binOp]) φ w;exact⟨r,by simp only[Z09,run_eqGuard_agg w op t ox oy _ _ c2,Z05,h1],h2⟩
    ·cases h
   ·cases h
  ·cases h
 ·exact IB h hC hu hv
def pe (P:Program) (n:Nat) (t:TypeId) (x:V) (f:Nat) (ans:List Ans):Option Out:=
 match P.underlying t,x with
 |some (.struct fs),.agg l=>
  match fs[f]? with
  |some fd=>
   match xL P fd.type with
   |some (true,sz)=>lt n (.agg ((l.drop fd.offset).take sz)) ans True
   |some (false,_)=>match l[fd.offset]? with|some s=>lt n (.s s) ans True|none=>none
   |none=>none
  |none=>none
 |_,_=>none
theorem j8 {ag:Bool} {sz:Nat} (ht:xL P t=some (ag,sz)) (w:World):(isAgg t).run P w=.ok ag w/\(sizeOf t).run P w=.ok sz w:=by
 unfold xL at ht;simp only[isAgg,sizeOf,typeInfo,underlying,Z09,run_program,Z05]
 cases hu:P.underlying t with
 |none=>grind
 |some d=>
  simp only[hu] at ht |-
  cases hi:P.info? t with
  |none=>grind
  |some i=>rw[hi] at ht;cases d<;>simp at ht<;>obtain⟨rfl,rfl⟩:=ht<;>simp
theorem zw {f:Nat} (ho:o.op=.field t x f)
 (h:pe P n t (ev env x) f ans=some out):OutOK P o env n L out:=by
 unfold pe at h;split at h
 ·rename_i fs l hty hx
  split at h
  ·rename_i fd hfd
   split at h
   ·rename_i sz ht
    refine gJ h λφ a w hop=>?_
    have g:=hop x (by simp[ho,Op.operands]);rw[hx] at g;obtain⟨xs,hv,hall⟩:=g;refine⟨.agg ((xs.drop fd.offset).take sz).toArray,?_,_,rfl,(hall.drop _).take _⟩
    have e:xs.toArray.extract fd.offset (fd.offset+sz)=((xs.drop fd.offset).take sz).toArray:=by
     grind
    simp only[execOp,ho,hv,Instr.field,Z09,Ab.run_underlying hty,Z05,hfd,asAgg,Z0f,part,(j8 ht w).1,(j8 ht w).2,if_true,e]
   ·rename_i q ht
    split at h
    ·rename_i s hs
     refine gJ h λφ a w hop=>?_
     have g:=hop x (by simp[ho,Op.operands]);rw[hx] at g;obtain⟨xs,hv,hall⟩:=g;obtain⟨v,hv2,hr⟩:=hall.get hs;refine⟨v,?_,hr⟩;simp[execOp,ho,hv,Instr.field,Ab.run_underlying hty,hfd,asAgg,part,(j8 ht w).1,hv2]
    ·cases h
   ·cases h
  ·cases h
 ·cases h
def md (l:List UInt8):List S:=l.map λb=> .int .u8 (b.toNat:Int)
theorem oY {φ:Ph}:∀ (l:List UInt8),All2 (Sr φ) (md l) (l.map λ(b:UInt8)=>Value.int .u8 (b.toNat:Int))
 |[]=>trivial
 |_::t=>⟨rfl,oY t⟩
def uB (P:Program) (n:Nat) (L:Hp) (src dst:TypeId) (x:V) (ans:List Ans):Option Out:=
 match P.underlying src,P.underlying dst,x with
 |some (.slice e),some .string,.s (.slc (some (i,o)) len _)=>
  match P.underlying e,lk L i,ans with
  |some (.int .u8),some bl,.val (.s (.str l))::as_=>some ⟨⟨[i],.s (.str l),[],n⟩,as_,(bl.cells.drop o).take len=md l/\len=l.length/\bl.kind=none⟩
  |_,_,_=>none
 |some (.slice e),some .string,.s (.slc none _ _)=>
  match P.underlying e with
  |some (.int .u8)=>some ⟨⟨[],.s (.str []),[],n⟩,ans,True⟩
  |_=>none
 |_,_,_=>none
theorem Cv {src dst:TypeId} (ho:o.op=.convert src dst x)
 (h:uB P n L src dst (ev env x) ans=some out) (hC:out.C):OutOK P o env n L out:=by
 unfold uB at h;split at h
 ·rename_i e i off len c hs hd hx
  split at h
  ·rename_i bl l as_ he hl
   cases h;obtain⟨h1,rfl,hkd⟩:=hC;refine⟨OpL.light λφ a w hop hg=>?_,Z02 _⟩;have g:=hop x (by simp[ho,Op.operands]);rw[hx] at g;obtain⟨b,k,hb,hv,_⟩:=g;obtain⟨b',hb',hat⟩:=hg.hr i bl (by rw[bJ];simp[hl]);rw[hb] at hb';cases hb';refine⟨.string ⟨l.toArray⟩,?_,rfl⟩
   have:=run_convert_bytes_back (P:=P) w src dst e ⟨b.1,off+b.2,none⟩ k l hs he hd (λj hj=>by
    have hc:bl.cells[off+j]? =some (.int .u8 (l[j].toNat:Int)):=by
     have h2:((bl.cells.drop off).take l.length)[j]? =(md l)[j]? :=by rw[h1]
     rw[Z2w,if_pos hj,Z2k] at h2;rw[h2];simp[md,hj]
    obtain⟨v,hv2,hr⟩:=AZ hat hkd hc;simp only[Sr] at hr
    rw[bw,Nat.add_right_comm,hv2,hr])
   simp only[execOp,ho,hv];rw[Z09,this];rfl
  ·cases h
 ·rename_i e len c hs hd hx
  split at h
  ·rename_i he
   cases h;refine⟨OpL.light λφ a w hop hg=>?_,Z02 _⟩;have g:=hop x (by simp[ho,Op.operands]);rw[hx] at g;obtain⟨_,_,hv⟩:=g;refine⟨.string ⟨#[]⟩,?_,rfl⟩;simp only[execOp,ho,hv,Z09,convert,Ab.run_underlying hs,Ab.run_underlying hd,Ab.run_underlying he,Z05,Conv.bytesToString,Z0f];rfl
  ·cases h
 ·cases h
def ml (P:Program) (n:Nat) (src dst:TypeId) (x:V) (ans:List Ans):Option Out:=
 match P.underlying src,P.underlying dst,x with
 |some .string,some (.slice e),.s (.str l)=>
  match P.underlying e with
  |some (.int .u8)=>some ⟨⟨[],.s (.slc (some (n,0)) l.length none),[(n,some {cells:=md l,ty:=e,more:=true,sym:=true,flat:=true})],n+1⟩,ans,True⟩
  |_=>none
 |_,_,_=>none
theorem xq {src dst:TypeId} (ho:o.op=.convert src dst x)
 (h:ml P n src dst (ev env x) ans=some out):OutOK P o env n L out:=by
 unfold ml at h;split at h
 ·rename_i e l hs hd hx
  split at h
  ·rename_i he
   cases h;refine⟨?_,Z3s _⟩
   refine OpL.fresh (L:=[]) (bl:={cells:=md l,ty:=e,more:=true,sym:=true,flat:=true}) (by simp[lk]) λφ a w hop _=>?_
   have g:=hop x (by simp[ho,Op.operands]);rw[hx] at g;simp only[Vr,Sr] at g;have hr:=run_bytes_of_string (P:=P) w src dst e ⟨l.toArray⟩ hs hd he;have es:(⟨l.toArray⟩:ByteArray).size=l.length:=rfl;rw[es] at hr;generalize hcap:grownCap w l.length 0 e=cap at hr
   have hle:l.length<=cap:=by grind [Question.cut,grownCap]
   have hrow:bytesRow ⟨l.toArray⟩ cap=((l.map λ(b:UInt8)=>Value.int .u8 (b.toNat:Int))++List.replicate (cap-l.length) (Value.int .u8 0)).toArray:=by
    apply Z3v;simp[bytesRow,es]
   refine⟨.slice (some ⟨w.heap.size,0,none⟩) l.length cap,w.drew.alloc (.cells (bytesRow ⟨l.toArray⟩ cap) e ((bytesRow ⟨l.toArray⟩ cap).size,(bytesRow ⟨l.toArray⟩ cap).size+1)),by simp only[execOp,ho,g];rw[Z09,hr];rfl,rfl,rfl,rfl,⟨_,rfl⟩,?_,λφ' hn _=>⟨_,cap,hn,rfl,hle,.inl rfl⟩⟩;refine⟨[],l.map λ(b:UInt8)=>Value.int .u8 (b.toNat:Int),List.replicate (cap-l.length) (Value.int .u8 0),((bytesRow ⟨l.toArray⟩ cap).size,(bytesRow ⟨l.toArray⟩ cap).size+1),?_,rfl,?_,λe=>by grind,λ_ o ho=>?_,⟨λ_ _ e=>(by cases e),λ_ e=>(by cases e)⟩⟩
   ·show (w.heap.push _)[w.heap.size]? =_
    rw[hrow];simp[di]
   all_goals grind [oY]
  ·cases h
 ·cases h
section
variable {P:Program} {ts:Array TypeId} {ty t tx e:TypeId} {inf:TypeInfo} {dx:TypeDesc}
theorem zh {w':World} (h0:ts[0]? =some t) (h1:ts[1]? =some tx) (ht:P.underlying t=some (.slice e)) (hx:P.underlying tx=some dx) (hdx:∀ k,dx≠.int k) (hi:P.info? e=some inf) {a:Addr} {len cap:Nat} {x:Value} {new:Array Value}
 (hlen:(Builtin.lenOf x).run P w=.ok n w) (hnew:(Builtin.firstCells inf.size n x).run P w=.ok new w) (hfit:len+n<=cap) (hst:(storeCells (a.add (len*inf.size)) new.toList).run P w=.ok () w'):
 (Builtin.append_ ts ty #[.slice (some a) len cap,x]).run P w=.ok (.slice (some a) (len+n) cap) w':=by
 have hz:(match dx with| .int _=>true|_=>false)=false:=by cases dx<;>first|rfl|exact absurd rfl (hdx _)
 have hsz:(sizeOf e).run P w=.ok inf.size w:=by simp[sizeOf,typeInfo,hi]
 unfold Builtin.append_;simp only[h0,h1,Z1a,Z11,Z23,Z09,Ab.run_underlying ht,Ab.run_underlying hx,Z05,hsz,Z0f]
 cases dx<;>first|exact absurd rfl (hdx _)|(simp only[Z0l,if_false,Z2f,if_true,hlen,Z09,Z05,Z0f,if_pos hfit,hnew,hst])
end
theorem Pr.sr {x:S} (h:Pr φ.z x v):Sr φ x v:=by
 cases h with
 |bool b=>rfl
 |int k n=>rfl
 |str l=>rfl
 |unk v h=>exact h
 |cst v h=>exact⟨rfl,h⟩
 |nil get sz a k hk=>exact .nil get sz a k hk
 |frz get sz n b o k vs h1 hn val hl hv hx=>exact .frz get sz n b o k vs h1 hn val hl hv hx
def cX (get:Nat->List S) (k:Nat):List S:=(List.range k).flatMap get
theorem k8 (get:Nat->List S) (k:Nat):cX get (k+1)=cX get k++get k:=by
 unfold cX;rw[Z3a,Z0r];simp
theorem rW {get:Nat->List S} {sz o:Nat} {vs:List Value} {val:Nat->Nat->Value} (hl:∀ i,i<n->(get i).length=sz) (hv:∀ i j x,i<n->(get i)[j]? =some x->vs[o+(i*sz+j)]? =some (val i j)) (hx:∀ i j x,i<n->(get i)[j]? =some x->Pr φ.z x (val i j)):
 ∀ k,k<=n->∃ ys:List Value,ys.length=k*sz/\All2 (Sr φ) (cX get k) ys/\∀ i y,ys[i]? =some y->vs[o+i]? =some y:=by
 intro k
 induction k with
 |zero=>intro _;exact⟨[],aq,trivial,λi y h=>by simp at h⟩
 |succ k ih=>
  intro hk;obtain⟨ys,h1,h2,h3⟩:=ih aa;have hlk:=hl k aa;refine⟨ys++(List.range sz).map (val k),ae,?_,?_⟩
  ·rw[k8]
   refine h2.append (All2.of_get ae λj x y hj hy=>?_)
   have hjs:j<sz:=by
    grind
   simp only[Z0t,Z26 hjs,Z1j,Z06] at hy;subst hy;exact (hx k j x aa hj).sr
  ·intro i y hi
   rcases Z0a i ys.length with h|h
   ·grind
   ·rw[Z1f h,h1] at hi
    have hjs:i-k*sz<sz:=by
     grind
    simp only[Z0t,Z26 hjs,Z1j,Z06] at hi;subst hi;have hj:(get k)[i-k*sz]? =some ((get k)[i-k*sz]'aa):=aq
    grind
def gc (L:Hp) (size k:Nat) (x:V):Option (List Nat×Nat×List S×Prop):=
 match x with
 | .s (.str l)=>match size with|1=>some ([],l.length,md (l.take k),True)|_=>none
 | .s (.slc none _ _)=>some ([],0,[],k=0)
 | .s .emp=>some ([],0,[],k=0)
 | .s .emq=>some ([],0,[],k=0)
 | .s (.slc (some (j,p)) m _)=>match lk L j with|some bl=>some ([j],m,(bl.cells.drop p).take (k*size),p+k*size<=bl.cells.length/\bl.kind=none)|none=>none
 | .s (.frz get sz m)=>match Nat.beq sz size with|true=>some ([],m,cX get k,True)|false=>none
 |_=>none
theorem vc {M:Hp} {size k:Nat} {x:V} {foot:List Nat} {m:Nat} {xs:List S} {C:Prop} (h:gc L size k x=some (foot,m,xs,C)) (hC:C) (hk:k<=m) (hg:Good φ M w) (hf:∀ i∈foot,lk M i=lk L i) (hv:Vr φ x v):
 (Builtin.lenOf v).run P w=.ok m w/\∃ vs:List Value,(Builtin.firstCells size k v).run P w=.ok vs.toArray w/\All2 (Sr φ) xs vs/\xs.length=k*size:=by
 unfold gc at h;split at h
 ·rename_i l
  simp only[Vr,Sr] at hv;subst hv;split at h
  ·simp only[Z06,Z0j] at h
   obtain⟨rfl,rfl,rfl,rfl⟩:=h;refine⟨rfl,(l.take k).map λ(b:UInt8)=>Value.int .u8 (b.toNat:Int),?_,oY _,by simp[md];omega⟩;simp only[Builtin.firstCells,Z0f];congr 1;apply Z3v;simp[Z5p]
  ·cases h
 ·simp only[Z06,Z0j] at h
  obtain⟨rfl,rfl,rfl,rfl⟩:=h;obtain⟨_,_,rfl⟩:=hv;exact⟨rfl,[],rfl,trivial,ae⟩
 ·simp only[Z06,Z0j] at h
  obtain⟨rfl,rfl,rfl,rfl⟩:=h;obtain⟨a,rfl⟩:=hv;subst hC;exact⟨rfl,[],by simp[Builtin.firstCells,loadCells,loadCellsFrom],trivial,aq⟩
 ·simp only[Z06,Z0j] at h
  obtain⟨rfl,rfl,rfl,rfl⟩:=h;obtain⟨a,kk,rfl⟩:=hv;subst hC;exact⟨rfl,[],by simp[Builtin.firstCells,loadCells,loadCellsFrom],trivial,aq⟩
 ·rename_i j p mm c
  split at h
  ·rename_i bl hl
   simp only[Z06,Z0j] at h;obtain⟨rfl,rfl,rfl,rfl⟩:=h;obtain⟨b,kc,hb,rfl,_⟩:=hv;obtain⟨b',hb',hat⟩:=hg.hr j bl ae;rw[hb] at hb';cases hb';refine⟨rfl,?_⟩;obtain⟨hC,hkd⟩:=hC;obtain⟨pre,ys,rest,fr,h1,hp,h2,h3,h4⟩:=hat;rw[hkd] at h1;simp only[di] at h1;have hlen:=h2.len;have hv2:All2 (Sr φ) ((bl.cells.drop p).take (k*size)) ((ys.drop p).take (k*size)):=((h2.mono λ_ _=>Sr.mono (bl.ph_le_self φ)).drop p).take _;have hl2:((ys.drop p).take (k*size)).length=k*size:=ae;refine⟨(ys.drop p).take (k*size),?_,hv2,ae⟩
   have hld:=bA (P:=P) (w:=w) (b:=b.1) (o:=p+b.2) ((ys.drop p).take (k*size)) 0 #[] (by
    intro i v hi
    have hi':i<k*size:=by
     rcases Z0a i ((ys.drop p).take (k*size)).length with h|h
     ·omega
     ·simp[Z0b h] at hi
    simp only[Z2w,Z2k,if_pos hi'] at hi;simp only[World.cell?,h1];have:p+i<ys.length:=aa;simp only[Z2b,Z0l,if_false,Z1a,Z0c]
    rw[show p+b.2+i=(p+i)+b.2 by omega,iJ pre _ hp,Z0x this];exact hi)
   grind [Builtin.firstCells,loadCells]
  ·cases h
 ·rename_i get sz mm
  split at h
  ·rename_i hb
   have hb:=Z0q hb;subst hb;simp only[Z06,Z0j] at h;obtain⟨rfl,rfl,rfl,rfl⟩:=h;have hv:Pr φ.z (.frz get sz mm) v:=hv
   cases hv with
   |nil get' sz' a c=>
    obtain rfl:k=0:=aa;exact⟨rfl,[],by cases a<;>simp[Builtin.firstCells,loadCells,loadCellsFrom],trivial,by simp[cX]⟩
   |frz get' sz' n' b o c vs h1 hn val hl hvv hx=>
    obtain⟨ys,q1,q2,q3⟩:=rW (φ:=φ) hl hvv hx k hk;refine⟨rfl,ys,?_,q2,by rw[<-q2.len,q1]⟩;obtain⟨⟨ty,fr,hb⟩,_⟩:=hg.fz b vs h1
    have hld:=bA (P:=P) (w:=w) (b:=b) (o:=o) ys 0 #[] (by
     intro i v hi;simp only[World.cell?,hb,Z2b,Z0l,if_false,Z1a,Z0c]
     exact q3 i v hi)
    grind [Builtin.firstCells,loadCells]
  ·cases h
 ·cases h
def Gc (P:Program) (ts:Array TypeId) (n:Nat) (L:Hp) (d x:V) (ans:List Ans):Option Out:=
 match ts[0]? with
 |some t=>
  match P.underlying t,d with
  |some (.slice e),.s (.slc (some (i,o)) dl _)=>
   match cE P e,lk L i with
   |some sz,some bl=>
    match ans with
    | .idx k::.cells cs::as_=>
      match gc L sz k x with
      |some (foot,m,xs,C)=>
       match !bl.ro&&bl.kind.isNone with
       |true=>some ⟨⟨i::foot,.s (.int .i64 (k:Int)),[(i,some {bl with cells:=cs})],n⟩,as_,C/\k=min m dl/\o+k*sz<=bl.cells.length/\cs=bW bl.cells o xs/\cf bl xs=true⟩
       |false=>none
      |none=>none
    |_=>none
   |_,_=>none
  |_,_=>none
 |none=>none
theorem Gb {c:Call} {d:Operand} (ho:o.op=.call c) (hc:c.callee=.builtin .copy) (hargs:c.args.toList=[d,x])
 (h:Gc P c.argTypes n L (ev env d) (ev env x) ans=some out) (hC:out.C):OutOK P o env n L out:=by
 unfold Gc at h;split at h
 ·rename_i t ht
  split at h
  ·rename_i e i off dl cap hty hd
   split at h
   ·rename_i sz bl hsz hl
    split at h
    ·rename_i k cs as_
     split at h
     ·rename_i foot m xs C hsrc
      split at h
      ·rename_i hchk
       simp only[Z07,Z0v] at hchk;cases h;obtain⟨c1,c2,c3,c4,c5⟩:=hC;refine⟨?_,Z02 _⟩;intro φ a w Q hop hg hfree
       have opd:d∈o.op.operands:=by rw[ho];simp only[Op.operands,Call.operands,hc];simp[<-Z3n,hargs]
       have opx:x∈o.op.operands:=by rw[ho];simp only[Op.operands,Call.operands,hc];simp[<-Z3n,hargs]
       have g1:=hop d opd;have g2:=hop x opx;rw[hd] at g1;obtain⟨b,kc,hb,hv,_⟩:=g1;obtain⟨r1,vs,r2,r3,r4⟩:=vc (P:=P) hsrc c1 aa hg (λj hj=>by rw[bJ,if_pos (by simp[hj])]) g2;obtain⟨b',hb',hat⟩:=hg.hr i bl (by rw[bJ,if_pos aq];exact hl);rw[hb] at hb';cases hb';obtain⟨pre,ys,rest,fr,k1,hp,k2,k3,k4,k5⟩:=hat
       have hkd:bl.kind=none:=by simpa using hchk.2
       rw[hkd] at k1;simp only[di] at k1;have hl1:=k2.len;have hl2:=r3.len
       obtain⟨w',hr,q1,q2,q3,q4,q5,q6⟩:=eC (P:=P) (b:=b.1) (o:=off+b.2) vs 0 w (pre++(ys++rest)) k1
        (λz hz=>by
          obtain⟨j,hj,hz⟩:=List.getElem_of_mem hz;obtain⟨s,hsm,hs⟩:=r3.get' (i:=j) (b:=z) (by rw[<-hz];simp[hj])
          exact hs.cell (m7 c5 hsm))
        ae (k4 hchk.1)
       have hsub:xy [(i,some bl)] (res (i::foot) L):=by
        intro j bj hj;rw[aY] at hj;split at hj
        ·rename_i e;subst e;cases hj;rw[bJ,if_pos aq];exact hl
        ·simp[lk] at hj
       obtain⟨good,stp⟩:=pz (w':=w') (cs':=cs) hkd (hg.sub hsub) hb hchk.1 c5 r3 aa c4 ⟨pre,ys,rest,fr,k1,hp,k2,k3,k4 hchk.1,k5,ae⟩ q1 q2 q3 q4 q6
       obtain⟨f1,f2⟩:=frame (M':=aA (res (i::foot) L) [(i,some {bl with cells:=cs})]) hg hsub good stp (Ph.le_refl _) (by
        intro j bj hj;simp only[aA] at hj;rw[aC] at hj;by_cases e:i=j
        ·subst e;rw[if_pos rfl] at hj;exact .inl (by rw[aY,if_pos rfl];exact hj)
        ·rw[if_neg e] at hj;exact .inr ⟨by rw[aY,if_neg e];rfl,hj⟩)
       have hrun:(execOp a.eval o).run P w=.ok (.value (.int .i64 (k:Int))) w':=by
        have ea:c.args.map a.eval= #[a.eval d,a.eval x]:=by apply Z3v;simp[hargs]
        have hk:Nat.min m dl=k:=c2.symm;simp only[execOp,ho,resolve,hc,Z09,Z0f,Z05,invoke,builtin,ea,Builtin.copy_,ht,Z1a,Z11,Z23,Ab.run_underlying hty,hv,r1,aI hsz,hk,r2,hr,goInt]
       unfold Oper.wp;rw[hrun,Z3q];exact⟨φ,_,rfl,rfl,f1,f2,λ_ _=>rfl⟩
      ·cases h
     ·cases h
    ·cases h
   ·cases h
  ·cases h
 ·cases h
end
