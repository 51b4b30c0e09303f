import Derived.Test.YtegjgpldfgjoiaaGreatDoorCnJ05
set_option linter.all false
namespace Go.Proofs.YtegjgpldfgjoiaaGreatDoor
namespace Ab
open Go
section
variable {P:Program} {t:TypeId} {env:List V} {ans:List Ans} {n:Nat} {L:Hp} {out:Out} {o:Oper} {φ:Ph}
def rep (k:Nat) (zs:List S):List S:=match zs with|[z]=>List.replicate k z|zs=>(List.range (k*zs.length)).map λi=>zs.getD (i%zs.length) .unk
theorem gm (k:Nat) (zs:List S):(rep k zs).length=k*zs.length:=by unfold rep;split<;>simp
theorem te (k:Nat) (zs:List S) (i:Nat) (h:i<k*zs.length):(rep k zs)[i]? =zs[i%zs.length]? :=by
 have hpos:0<zs.length:=by rcases Z21 zs.length with e|e;·rw[e] at h;omega
                           ·exact e
 have hm:=Nat.mod_lt i hpos;unfold rep
 grind
theorem Dt {zs:List S} {zc:List Value} (hz:All2 (Sr φ) zs zc) (k:Nat):All2 (Sr φ) (rep k zs) ((Array.range (k*zc.length)).map (λi=>zc.toArray[i%zc.toArray.size]!)).toList:=by
 have hl:=hz.len
 refine All2.of_get (by rw[gm];simp[hl]) λi a b ha hb=>?_
 have hi:i<k*zs.length:=by
  grind
 rw[te k zs i hi] at ha
 grind [hz.get]
def Bj (P:Program) (n:Nat) (t:TypeId) (l c:V) (ans:List Ans):Option Out:=
 match P.underlying t,l,c with
 |some (.slice e),.s (.int _ zl),.s (.int _ zc)=>
  match P.info? e,dW P e with
  |some inf,some zs=>
   match Nat.beq inf.size zs.length with
   |true=>
    match ans with
    | .idx kl::.idx kc::as_=>some ⟨⟨[],.s (.slc (some (n,0)) kl (some kc)),[(n,some {cells:=rep kc zs,ty:=e,sym:=true,flat:=zs.all bZ})],n+1⟩,as_,zl=(kl:Int)/\zc=(kc:Int)/\kl<=kc/\inf.bytes*kc<=281474976710656/\kc<=281474976710656⟩
    | .mk kl::.mk kc::as_=>l6 (rep kc zs) [] λcs=>some ⟨⟨[],.s (.slc (some (n,0)) kl (some kc)),[(n,some {cells:=cs,ty:=e})],n+1⟩,as_,zl=(kl:Int)/\zc=(kc:Int)/\kl<=kc/\inf.bytes*kc<=281474976710656/\kc<=281474976710656⟩
    |_=>none
   |false=>none
  |_,_=>none
 |_,_,_=>none
theorem vq {w:World} {e:TypeId} {inf:TypeInfo} {zs:List S} (hty:P.underlying t=some (.slice e)) (hi:P.info? e=some inf) (hz:dW P e=some zs) (hsz:inf.size=zs.length) {k1 k2:IntKind} {kl kc:Nat} (hle:kl<=kc) (hb:inf.bytes*kc<=281474976710656) (hk:kc<=281474976710656):
 ∃ xs:List Value,(Instr.makeSlice t (.int k1 (kl:Int)) (.int k2 (kc:Int))).run P w=.ok (.slice (some ⟨w.heap.size,0,none⟩) kl kc) {w with heap:=w.heap.push (.cells xs.toArray e)}/\∀ φ,All2 (Sr φ) (rep kc zs) xs:=by
 obtain⟨z,hzr,hall⟩:=fZ hz w
 have hlen:z.cells.size=zs.length:=by rw[<-Z28];exact (hall ⟨λ_=>none,λ_=>none⟩).len
 have w1:IntKind.i64.wrap (kl:Int)=kl:=aB aa aa;have w2:IntKind.i64.wrap (kc:Int)=kc:=aB aa aa;refine⟨((Array.range (kc*z.cells.toList.length)).map (λi=>z.cells.toList.toArray[i%z.cells.toList.toArray.size]!)).toList,?_,λφ=>Dt (hall φ) kc⟩
 have hs:(sizeOf e).run P w=.ok inf.size w:=by simp[sizeOf,typeInfo,hi]
 have ht:(typeInfo e).run P w=.ok inf w:=by simp[typeInfo,hi]
 have c1:((decide ((kc:Int)<0)||decide ((inf.bytes:Int)*(kc:Int)>2^48))||decide ((kl:Int)<0)||decide ((kl:Int)>(kc:Int)))=false:=by
  grind
 unfold Instr.makeSlice;simp only[Z09,run_underlying hty,Z05,asInt,asIntOf,Z0f,ht,w1,w2];simp only[c1,Z0l,if_false,Z0f,Z05,run_askRoom,hs,Z12,Z09];have hls:z.cells.toList.length=inf.size:=ae;by_cases h0:kc*inf.size=0
 ·rw[if_pos h0]
  simp only[Z0f,Z05,newRow,Z09,run_newObj,hls]
  grind
 ·rw[if_neg h0]
  simp only[Z09,hzr,Z0f,Z05,newRow,run_newObj,hls]
theorem F9 {x y:Operand} (ho:o.op=.makeSlice t x y)
 (h:Bj P n t (ev env x) (ev env y) ans=some out) (hC:out.C):OutOK P o env n L out:=by
 unfold Bj at h;split at h
 ·rename_i e k1 zl k2 zc hty hx hy
  split at h
  ·rename_i inf zs hi hz
   split at h
   ·rename_i hsz
    have hsz:=Z0q hsz;split at h
    ·rename_i kl kc as_
     cases h;obtain⟨rfl,rfl,h3,h4,h5⟩:=hC;refine⟨?_,Z3s _⟩
     refine OpL.fresh (L:=[]) (bl:={cells:=rep kc zs,ty:=e,sym:=true,flat:=zs.all bZ}) (by simp[lk]) λφ a w hop _=>?_
     have g1:=hop x (by simp[ho,Op.operands]);have g2:=hop y (by simp[ho,Op.operands]);rw[hx] at g1;rw[hy] at g2;simp only[Vr,Sr] at g1 g2;obtain⟨xs,hr,hall⟩:=vq (w:=w) hty hi hz hsz (k1:=k1) (k2:=k2) h3 h4 h5;refine⟨.slice (some ⟨w.heap.size,0,none⟩) kl kc,{w with heap:=w.heap.push (.cells xs.toArray e)},by simp only[execOp,ho,g1,g2];rw[Z09,hr];rfl,rfl,rfl,rfl,⟨_,rfl⟩,⟨[],xs,[],(0,0),by simp[di],rfl,hall _,λ_=>rfl,λ_ _ _=>by simp,⟨λ_ _ e=>(by cases e),λ_ e=>(by cases e)⟩⟩,λφ' hn _=>⟨_,kc,hn,rfl,h3,.inr rfl⟩⟩
    ·rename_i kl kc as_
     rw[cO] at h;cases h;obtain⟨rfl,rfl,h3,h4,h5⟩:=hC;refine⟨?_,Z3s _⟩
     refine OpL.fresh (L:=[]) (bl:={cells:=rep kc zs,ty:=e}) (by simp[lk]) λφ a w hop _=>?_
     have g1:=hop x (by simp[ho,Op.operands]);have g2:=hop y (by simp[ho,Op.operands]);rw[hx] at g1;rw[hy] at g2;simp only[Vr,Sr] at g1 g2;obtain⟨xs,hr,hall⟩:=vq (w:=w) hty hi hz hsz (k1:=k1) (k2:=k2) h3 h4 h5;refine⟨.slice (some ⟨w.heap.size,0,none⟩) kl kc,{w with heap:=w.heap.push (.cells xs.toArray e)},by simp only[execOp,ho,g1,g2];rw[Z09,hr];rfl,rfl,rfl,rfl,⟨_,rfl⟩,⟨[],xs,[],(0,0),by simp[di],rfl,hall _,λ_=>rfl,λ_ _ _=>by simp,⟨λ_ _ e=>(by cases e),λ_ e=>(by cases e)⟩⟩,λφ' hn _=>⟨_,kc,hn,rfl,h3,.inr rfl⟩⟩
    ·cases h
   ·cases h
  ·cases h
 ·cases h
def ql (place:Nat->Option (Nat×Nat)):List S->List (Nat×V)->Option (List S)
 |cs,[]=>some cs
 |cs,(i,v)::t=>
  match place i,cellsOf v with
  |some (off,sz),some l=>match Nat.beq l.length sz&&Nat.ble (off+l.length) cs.length with|true=>ql place (bW cs off l) t|false=>none
  |_,_=>none
theorem qf {α:Type}:∀ (vs:List α) (arr:List α) (off k:Nat),(vs.zipIdx k).foldl (λ(cs:Array α) (x:α×Nat)=>cs.setIfInBounds (off+x.2) x.1) arr.toArray=(bW arr (off+k) vs).toArray
 |[],_,_,_=>rfl
 |v::t,arr,off,k=>by
  simp only[List.zipIdx_cons,Z2s,bW];rw[List.setIfInBounds_toArray,qf t,Z52]
theorem oU {φ:Ph} {place:Nat->Option (Nat×Nat)}:∀ {parts:List (Nat×V)} {vals:List (Nat×Value)} {cs:List S} {arr:List Value} {cs':List S},
 All2 (λ(p:Nat×V) (q:Nat×Value)=>p.1=q.1/\Vr φ p.2 q.2) parts vals->All2 (Sr φ) cs arr->ql place cs parts=some cs'->∃ arr',Instr.fill place arr.toArray vals=some arr'.toArray/\All2 (Sr φ) cs' arr'
 |[],[],cs,arr,cs',_,hc,h=>by simp[ql] at h;subst h;exact⟨arr,rfl,hc⟩
 |(i,v)::ps,(j,y)::qs,cs,arr,cs',hp,hc,h=>by
  obtain⟨⟨hij,hv⟩,hp⟩:=hp;simp only at hij hv;subst hij;simp only[ql] at h;split at h
  ·rename_i off sz l hpl hcl
   split at h
   ·rename_i hchk
    simp only[Z07] at hchk;have e1:=Z0q hchk.1;have e2:=Z1y hchk.2;have hall:=nv hcl hv;have hl1:=hall.len;have hl2:=hc.len;obtain⟨arr',hf,ha⟩:=oU (place:=place) hp (xR off hc hall) h;refine⟨arr',?_,ha⟩;simp only[Instr.fill,hpl];have hs:y.cells.size=sz:=ae;have: ¬((decide (y.cells.size≠sz)||decide (off+y.cells.size>arr.toArray.size))=true):=ae;rw[if_neg ae];have e3:=qf y.cells.toList arr off 0;rw[Z0p] at e3;rw[<-hf,<-e3];congr 1;rw[<-Array.foldl_toList];simp
   ·cases h
  ·cases h
 |[],_::_,_,_,_,h,_,_=>h.elim
 |_::_,[],_,_,_,h,_,_=>h.elim
def lI (env:List V) (parts:Array (Nat×Operand)):List (Nat×V):=parts.toList.map λ(i,x)=>(i,ev env x)
theorem oK {φ:Ph} {env:List V} {a:Act}:∀ (l:List (Nat×Operand)),(∀ x∈l.map (·.2),Vr φ (ev env x) (a.eval x))->
 All2 (λ(p:Nat×V) (q:Nat×Value)=>p.1=q.1/\Vr φ p.2 q.2) (l.map λ(i,x)=>(i,ev env x)) (l.map λ(i,x)=>(i,a.eval x))
 |[],_=>trivial
 |(i,x)::t,h=>⟨⟨rfl,h x aq⟩,oK t λy hy=>h y ae⟩
def jz (P:Program):List Field->Option (List (Nat×Nat))
 |[]=>some []
 |f::t=>match cE P f.type,jz P t with|some sz,some r=>some ((f.offset,sz)::r)|_,_=>none
theorem nQ {P:Program} {w:World}:∀ {fs:List Field} {r:List (Nat×Nat)},jz P fs=some r->(fs.mapM λ(f:Field)=>(do pure (f.offset,<-sizeOf f.type):Sem (Nat×Nat))).run P w=.ok r w
 |[],r,h=>by simp[jz] at h;subst h;simp
 |f::t,r,h=>by
  simp only[jz] at h;split at h
  ·rename_i sz r' h1 h2
   cases h;rw[List.mapM_cons];simp only[Z09,aI h1,Z05,Z0f,nQ h2]
  ·cases h
def uF (P:Program) (n:Nat) (t:TypeId) (parts:List (Nat×V)) (ans:List Ans):Option Out:=
 match P.underlying t,dW P t with
 |some (.struct fs),some zs=>
  match jz P fs.toList with
  |some pl=>match ql (λi=>pl[i]?) zs parts with|some cs=>lt n (.agg cs) ans True|none=>none
  |none=>none
 |some (.array _ e),some zs=>
  match cE P e with
  |some sz=>match ql (λi=>some (i*sz,sz)) zs parts with|some cs=>lt n (.agg cs) ans True|none=>none
  |none=>none
 |_,_=>none
theorem CB {parts:Array (Nat×Operand)} (ho:o.op=.build t parts)
 (h:uF P n t (lI env parts) ans=some out):OutOK P o env n L out:=by
 unfold uF at h;split at h
 ·rename_i fs zs hty hz
  split at h
  ·rename_i pl hpl
   split at h
   ·rename_i cs hcs
    refine gJ h λφ a w hop=>?_
    obtain⟨z,hzr,hall⟩:=fZ hz w;have hp:=oK (φ:=φ) (env:=env) (a:=a) parts.toList (λx hx=>hop x (by grind [Op.operands]));obtain⟨arr',hf,ha⟩:=oU hp (hall φ) hcs;refine⟨.agg arr'.toArray,?_,arr',rfl,ha⟩
    have hm:(Array.mapM (λ(f:Field)=>(do pure (f.offset,<-sizeOf f.type):Sem (Nat×Nat))) fs).run P w=.ok pl.toArray w:=by
     rw[Array.mapM_eq_mapM_toList];simp only[Sem.run_map,nQ hpl,Z05]
    have e:(parts.map λ(i,x)=>(i,a.eval x)).toList=parts.toList.map λ(i,x)=>(i,a.eval x):=aq
    simp only[execOp,ho,Instr.build,Z09,hzr,Z05,run_underlying hty,hm,e];have e2:(λ(x:Nat)=>pl.toArray[x]?)=(λ(i:Nat)=>pl[i]?):=ae;have e3:z.cells.toList.toArray=z.cells:=aq;rw[e3] at hf;simp only[e2,hf,Z0f,Z05]
   ·cases h
  ·cases h
 ·rename_i len e zs hty hz
  split at h
  ·rename_i sz hsz
   split at h
   ·rename_i cs hcs
    refine gJ h λφ a w hop=>?_
    obtain⟨z,hzr,hall⟩:=fZ hz w;have hp:=oK (φ:=φ) (env:=env) (a:=a) parts.toList (λx hx=>hop x (by grind [Op.operands]));obtain⟨arr',hf,ha⟩:=oU hp (hall φ) hcs;refine⟨.agg arr'.toArray,?_,arr',rfl,ha⟩
    have e1:(parts.map λ(i,x)=>(i,a.eval x)).toList=parts.toList.map λ(i,x)=>(i,a.eval x):=aq
    have e3:z.cells.toList.toArray=z.cells:=aq;rw[e3] at hf;simp only[execOp,ho,Instr.build,Z09,hzr,Z05,run_underlying hty,aI hsz,e1,hf,Z0f]
   ·cases h
  ·cases h
 ·cases h
def gP (P:Program) (n:Nat) (t:TypeId) (len:Nat) (parts:List (Nat×V)) (ans:List Ans):Option Out:=
 match P.underlying t with
 |some (.slice e)=>
  match cE P e,dW P e with
  |some sz,some zs=>
   match Nat.beq sz zs.length&&Nat.ble (len*sz) 16777216 with
   |true=>
    match ql (λi=>some (i*sz,sz)) (rep len zs) parts with
    |some cs=>l6 cs [] λcs=>some ⟨⟨[],.s (.slc (some (n,0)) len (some len)),[(n,some {cells:=cs,ty:=e})],n+1⟩,ans,True⟩
    |none=>none
   |false=>none
  |_,_=>none
 |_=>none
theorem qL {len:Nat} {parts:Array (Nat×Operand)} (ho:o.op=.buildSlice t len parts)
 (h:gP P n t len (lI env parts) ans=some out):OutOK P o env n L out:=by
 unfold gP at h;split at h
 ·rename_i e hty
  split at h
  ·rename_i sz zs hsz hz
   split at h
   ·rename_i hchk
    simp only[Z07] at hchk;have k1:=Z0q hchk.1;have k2:=Z1y hchk.2;split at h
    ·rename_i cs hcs
     rw[cO] at h;cases h;refine⟨?_,Z3s _⟩
     refine OpL.fresh (L:=[]) (bl:={cells:=cs,ty:=e}) (by simp[lk]) λφ a w hop _=>?_
     obtain⟨z,hzr,hall⟩:=fZ hz w;have hp:=oK (φ:=φ) (env:=env) (a:=a) parts.toList (λx hx=>hop x (by grind [Op.operands]))
     have hlen:z.cells.size=sz:=by rw[<-Z28,(hall φ).len,k1]
     obtain⟨arr',hf,ha⟩:=oU hp (Dt (hall φ) len) hcs;refine⟨.slice (some ⟨w.heap.size,0,none⟩) len len,{w with heap:=w.heap.push (.cells arr'.toArray e)},?_,rfl,rfl,rfl,⟨_,rfl⟩,xe rfl ha,λφ' hn _=>⟨_,len,hn,rfl,Z02 _,.inr rfl⟩⟩
     have e1:(parts.map λ(i,x)=>(i,a.eval x)).toList=parts.toList.map λ(i,x)=>(i,a.eval x):=aq
     have k3: ¬(len*sz>2^24):=aa
     have hf':Instr.fill (λi=>some (i*sz,sz)) ((Array.range (len*sz)).map (λi=>z.cells[i%z.cells.size]!)) (parts.toList.map λ(i,x)=>(i,a.eval x))=some arr'.toArray:=by
      have e:((Array.range (len*sz)).map (λi=>z.cells[i%z.cells.size]!))=((Array.range (len*z.cells.toList.length)).map (λi=>z.cells.toList.toArray[i%z.cells.toList.toArray.size]!)).toList.toArray:=by
       grind
      grind
     by_cases h0:len*sz=0
     ·have h0':((Array.range (len*sz)).map (λi=>z.cells[i%z.cells.size]!))=((Array.range (len*sz)).map (λi=>(#[]:Array Value)[i%(#[]:Array Value).size]!)):=ae
      rw[h0'] at hf';simp only[execOp,ho,Instr.buildSlice,Z09,run_underlying hty,Z05,aI hsz,if_neg k3,Z0f,e1];rw[if_pos h0];simp only[Z0f,Z05,hf',newRow,Z09,run_newObj]
     ·simp only[execOp,ho,Instr.buildSlice,Z09,run_underlying hty,Z05,aI hsz,if_neg k3,Z0f,e1]
      rw[if_neg h0];simp only[Z09,hzr,Z0f,Z05,hf',newRow,run_newObj]
    ·cases h
   ·cases h
  ·cases h
 ·cases h
def jU (x:Option V) (dflt top:Nat) (ans:List Ans):Option (Nat×List Ans×Prop):=
 match x with
 |none=>some (dflt,ans,True)
 |some (.s (.int _ z))=>match ans with| .idx k::as_=>some (k,as_,z=(k:Int)/\k<=top)|_=>none
 |_=>none
theorem qB {w:World} {x:Option V} {y:Option Value} (hxy:match x,y with|none,none=>True|some v,some u=>Vr φ v u|_,_=>False) {dflt top:Nat} {k:Nat} {as_:List Ans} {C:Prop} {code:BoundsCode}
 (h:jU x dflt top ans=some (k,as_,C)) (hC:C):(match y with|some v=>Instr.sliceBound v top code|none=>pure dflt).run P w=.ok k w/\(x.isSome=true->k<=top):=by
 unfold jU at h;split at h
 ·cases y with
  |none=>cases h;exact⟨rfl,aq⟩
  |some v=>grind
 ·cases y with
  |none=>grind
  |some v=>
   simp only[Vr,Sr] at hxy;split at h
   ·cases h
    obtain⟨rfl,h2⟩:=hC;rename_i kk _;have hb:(0:Int)<=(k:Int)/\(k:Int)<=(top:Int):=aa;exact⟨by simp only[Instr.sliceBound,hxy,asIntOf,Z09,Z0f,Z05];rw[if_pos hb];simp,λ_=>h2⟩
   ·cases h
 ·cases h
def sA (n:Nat) (l:List UInt8) (lo hi:Option V) (ans:List Ans):Option Out:=
 match jU hi l.length l.length ans with
 |some (h,as_,C)=>
  match jU lo 0 h as_ with
  |some (k,as',D)=>
   match hi,lo with
   |none,none=>some ⟨⟨[],.s (.str l),[],n⟩,as',C/\D⟩
   |none,some _=>some ⟨⟨[],.s (.str (l.drop k)),[],n⟩,as',C/\D⟩
   |some _,none=>some ⟨⟨[],.s (.str (l.take h)),[],n⟩,as',C/\D⟩
   |some _,some _=>some ⟨⟨[],.s (.str ((l.take h).drop k)),[],n⟩,as',C/\D⟩
  |none=>none
 |none=>none
def CV (cap:Option Nat) (len:Nat):Nat:=match cap with|some c=>c|none=>len
def Jw (cap:Option Nat) (k:Nat):Option Nat:=match cap with|some c=>some (c-k)|none=>none
def I4 (cap:Option Nat) (k h:Nat):Prop:=match cap with|some c=>k<c|none=>k<h
def xr (n i o len:Nat) (cap:Option Nat) (sz:Nat) (lo hi:Option V) (ans:List Ans):Option Out:=
 match jU hi len (CV cap len) ans with
 |some (h,as_,C)=>
  match jU lo 0 h as_ with
  |some (k,as',D)=>
   match lo with
   |none=>some ⟨⟨[],.s (.slc (some (i,o)) h cap),[],n⟩,as',C/\D⟩
   |some _=>
    match as' with
    | .idx m::as''=>some ⟨⟨[],.s (.slc (some (i,bU o (bQ k sz))) m (Jw cap k)),[],n⟩,as'',(C/\D)/\h-k=m/\I4 cap k h⟩
    |_=>none
  |none=>none
 |none=>none
def qJ (P:Program) (n:Nat) (t:TypeId) (x:V) (lo hi mx:Option V) (ans:List Ans):Option Out:=
 match mx with
 |some _=>none
 |none=>
  match P.underlying t,x with
  |some .string,.s (.str l)=>sA n l lo hi ans
  |some (.slice e),.s (.slc (some (i,o)) len cap)=>match cE P e with|some sz=>xr n i o len cap sz lo hi ans|none=>none
  |some (.slice e),.s (.slc none len cap)=>match lo,hi,cE P e with|none,none,some _=>some ⟨⟨[],.s (.slc none len cap),[],n⟩,ans,True⟩|_,_,_=>none
  |_,_=>none
theorem Hl {a:Act} (x:Option Operand) (h:∀ y∈x.toList,Vr φ (ev env y) (a.eval y)):match x.map (ev env),x.map a.eval with|none,none=>True|some v,some u=>Vr φ v u|_,_=>False:=by
 cases x with
 |none=>trivial
 |some y=>grind
theorem Cw {x:Operand} {lo hi mx:Option Operand} (ho:o.op=.slice t x lo hi mx)
 (h:qJ P n t (ev env x) (lo.map (ev env)) (hi.map (ev env)) (mx.map (ev env)) ans=some out) (hC:out.C):OutOK P o env n L out:=by
 have hmx:mx=none:=by
  unfold qJ at h
  cases mx with
  |none=>rfl
  |some m=>simp at h
 subst hmx
 have lower:∀ (d:Option Out),d=some out->True:=λ_ _=>trivial
 have light:∀ (v:V) (as_:List Ans) (C:Prop),out=⟨⟨[],v,[],n⟩,as_,C⟩->(∀ φ (a:Act) (w:World),(∀ y∈o.op.operands,Vr φ (ev env y) (a.eval y))->∃ y,(execOp a.eval o).run P w=.ok (.value y) w/\Vr φ v y)->OutOK P o env n L out:=by
  intro v as_ C e hh;subst e;exact⟨OpL.light λφ a w hx _=>hh φ a w hx,Z02 _⟩
 have opx:x∈o.op.operands:=by simp[ho,Op.operands]
 have oplo:∀ y∈lo.toList,y∈o.op.operands:=λy hy=>by grind [Op.operands]
 have ophi:∀ y∈hi.toList,y∈o.op.operands:=λy hy=>by grind [Op.operands]
 unfold qJ at h;simp only[Z2g] at h;split at h
 · --a string
   rename_i l hty hx;unfold sA at h;split at h
   ·rename_i hb as_ C hhi
    split at h
    ·rename_i k as' D hlo
     have key:C->D->∀ φ (a:Act) (w:World),(∀ y∈o.op.operands,Vr φ (ev env y) (a.eval y))->(execOp a.eval o).run P w=.ok (.value (.string ⟨((l.take hb).drop k).toArray⟩)) w:=by
      intro c1 c2 φ a w hop;have g:=hop x opx;rw[hx] at g;simp only[Vr,Sr] at g;have r1:=(qB (P:=P) (w:=w) (code:=.sliceAlen) (Hl hi λy hy=>hop y (ophi y hy)) hhi c1).1;have r2:=(qB (P:=P) (w:=w) (code:=.sliceB) (Hl lo λy hy=>hop y (oplo y hy)) hlo c2).1;have es:(⟨l.toArray⟩:ByteArray).size=l.length:=rfl
      have ex:(⟨l.toArray⟩:ByteArray).extract k hb=⟨((l.take hb).drop k).toArray⟩:=by
       apply ByteArray.ext;simp[Z5p];rw[List.drop_take]
      have hsb:(Instr.sliceBounds false l.length l.length (lo.map a.eval) (hi.map a.eval) none).run P w=.ok (k,hb,l.length) w:=by
       unfold Instr.sliceBounds
       cases hi<;>cases lo<;>simp_all
      simp only[execOp,ho,g,Z2g,Instr.sliceAt,Instr.slice,Z09,run_underlying hty,Z05,es,Z2b,Z0l,if_false,Z0f,hsb,ex]
     have kle:D->lo=none->k=0:=by
      grind [jU]
     have hle:C->hi=none->hb=l.length:=by
      grind [jU]
     cases hi with
     |none=>
      cases lo with
      |none=>
       simp at h;subst h
       refine light _ _ _ rfl λφ a w hop=>⟨_,key hC.1 hC.2 φ a w hop,?_⟩
       grind [Vr,Sr]
      |some _=>
       simp at h;subst h
       refine light _ _ _ rfl λφ a w hop=>⟨_,key hC.1 hC.2 φ a w hop,?_⟩
       grind [Vr,Sr]
     |some _=>
      cases lo with
      |none=>
       simp at h;subst h
       refine light _ _ _ rfl λφ a w hop=>⟨_,key hC.1 hC.2 φ a w hop,?_⟩
       grind [Vr,Sr]
      |some _=>
       simp at h;subst h
       exact light _ _ _ rfl λφ a w hop=>⟨_,key hC.1 hC.2 φ a w hop,rfl⟩
    ·cases h
   ·cases h
 · --a slice
   rename_i e i off len cap hty hx;split at h
   ·rename_i sz hsz
    unfold xr at h;split at h
    ·rename_i hb as_ C hhi
     split at h
     ·rename_i k as' D hlo
      have key:∀ (c:Nat),C->D->(cap=none\/cap=some c)->len<=c->∀ φ (a:Act) (w:World) (b off:Nat),(∀ y∈o.op.operands,Vr φ (ev env y) (a.eval y))->a.eval x=.slice (some ⟨b,off,none⟩) len c->
       (execOp a.eval o).run P w=.ok (.value (.slice (if c=k then some ⟨b,off,none⟩ else some ⟨b,off+k*sz,none⟩) (hb-k) (c-k))) w/\hb<=c:=by
       intro c c1 c2 hcap hle φ a w b off hop g
       have hhb:hb<=c/\(match hi.map a.eval with|some v=>Instr.sliceBound v c .sliceAcap|none=>pure len).run P w=.ok hb w:=by
        have q:=Hl (φ:=φ) (env:=env) (a:=a) hi λy hy=>hop y (ophi y hy)
        cases hi with
        |none=>simp[jU] at hhi;obtain⟨rfl,_,_⟩:=hhi;exact⟨hle,rfl⟩
        |some yh=>
         simp only[Z1j] at q hhi |-;unfold jU at hhi;split at hhi
         ·grind
         ·rename_i kd z he
          simp only[Z06] at he;rw[he] at q;simp only[Vr,Sr] at q;split at hhi
          ·simp only[Z06,Z0j] at hhi
           obtain⟨rfl,rfl,rfl⟩:=hhi;obtain⟨rfl,h2⟩:=c1
           have h3:CV cap len<=c:=by rcases hcap with rfl|rfl<;>simp[CV,hle]
           refine⟨aa,?_⟩;simp only[Instr.sliceBound,q,asIntOf,Z09,Z0f,Z05];rw[if_pos aa];simp
          ·cases hhi
         ·cases hhi
       have r2:=(qB (P:=P) (w:=w) (code:=.sliceB) (Hl lo λy hy=>hop y (oplo y hy)) hlo c2).1
       have hsb:(Instr.sliceBounds true len c (lo.map a.eval) (hi.map a.eval) none).run P w=.ok (k,hb,c) w:=by
        have q:=hhb.2;unfold Instr.sliceBounds
        cases hi<;>cases lo<;>simp_all
       refine⟨?_,hhb.1⟩;simp only[execOp,ho,g,Z2g,Instr.sliceAt,Instr.slice,Z09,run_underlying hty,Z05,hsb,aI hsz,Z1j,bw,Z0f]
      have kle:D->lo=none->k=0:=by
       grind [jU]
      cases lo with
      |none=>
       simp at h;subst h
       refine light _ _ _ rfl λφ a w hop=>?_
       have g:=hop x opx;rw[hx] at g;obtain⟨b,c,hb1,hv,hlc,hcc⟩:=g;obtain⟨r1,r2⟩:=key c hC.1 hC.2 hcc hlc φ a w b.1 (off+b.2) hop hv;have hk:=kle hC.2 rfl;subst hk;refine⟨_,r1,?_⟩;have:(if c=0 then some (⟨b.1,off+b.2,none⟩:Addr) else some ⟨b.1,off+b.2+0*sz,none⟩)=some ⟨b.1,off+b.2,none⟩:=ae;rw[this];exact⟨b,c,hb1,aq,r2,hcc⟩
      |some lv=>
       simp only[Z1j] at h;split at h
       ·rename_i m as''
        simp only[Z06] at h;subst h
        refine light _ _ _ rfl λφ a w hop=>?_
        have g:=hop x opx;rw[hx] at g;obtain⟨b,c,hb1,hv,hlc,hcc⟩:=g;obtain⟨⟨c1,c2⟩,c3,c4⟩:=hC;obtain⟨r1,r2⟩:=key c c1 c2 hcc hlc φ a w b.1 (off+b.2) hop hv;refine⟨_,r1,?_⟩
        have hne: ¬c=k:=by
         grind [I4]
        rw[if_neg hne];refine⟨b,c-k,hb1,by grind [ak,ao],aa,?_⟩
        rcases hcc with rfl|rfl
        ·exact .inl rfl
        ·exact .inr rfl
       ·cases h
     ·cases h
    ·cases h
   ·cases h
 · --the nil slice,whole
   rename_i e len cap hty hx
   cases hsz:cE P e with
   |none=>grind
   |some sz=>
    cases lo<;>cases hi<;>simp[hsz] at h
    subst h
    refine light _ _ _ rfl λφ a w hop=>?_
    have g:=hop x opx;rw[hx] at g;obtain⟨rfl,rfl,hv⟩:=g;refine⟨.slice none 0 0,?_,rfl,rfl,rfl⟩
    have hsb:(Instr.sliceBounds true 0 0 none none none).run P w=.ok (0,0,0) w:=by simp[Instr.sliceBounds]
    simp only[execOp,ho,hv,Z2g,Instr.sliceAt,Instr.slice,Z09,run_underlying hty,Z05,hsb,aI hsz,Z0f,if_true,Z3r]
 ·cases h
end
