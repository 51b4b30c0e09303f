import Derived.Test.YtegjgpldfgjoiaaGreatDoorCnJ07
set_option linter.all false
set_option maxRecDepth 100000
namespace Go.Proofs.YtegjgpldfgjoiaaGreatDoor
namespace Ab
open Go
section
variable {n:Nat} {P:Program} {o:Oper} {L M:Hp} {φ:Ph} {v:Value} {bi:Option Nat} {w:World}
theorem lz {α:Type}:∀ (xs p arr:List α),xs.length<=arr.length->bW (p++arr) p.length xs=p++(xs++arr.drop xs.length)
 |[],p,arr,_=>by simp[bW]
 |x::xs,p,a::arr,h=>by
  simp only[bW];have e:(p++a::arr).set p.length x=(p++[x])++arr:=aq;rw[e,show p.length+1=(p++[x]).length by simp,lz xs (p++[x]) arr ae];simp
 |x::xs,p,[],h=>by grind
def wkS:S->S
 | .sla i _ n=> .slc (some (i,0)) n none
 |x=>x
def iF:V->V
 | .s x=> .s (wkS x)
 |v=>v
theorem Lp {x:S} (h:Sr φ x v):Sr φ (wkS x) v:=by
 cases x with
 |sla i g n=>obtain⟨b,k,hb,_,hv,hn⟩:=h;exact⟨b,k,hb,by rw[Z0c];exact hv,hn,.inl rfl⟩
 |_=>exact h
theorem uQ {x:V} (h:Vr φ x v):Vr φ (iF x) v:=by
 cases x with
 |s x=>exact Lp h
 |_=>exact h
theorem yj (v:Value):iF (cI v)=cI v:=by
 unfold cI;split<;>rfl
theorem nZ (env:List V) (x:Operand):ev (env.map iF) x=iF (ev env x):=by
 cases x with
 |tmp t=>
  simp only[ev,Z00,Z0t]
  cases env[t]? <;>rfl
 |const v=>exact (yj v).symm
 |_=>rfl
theorem OpL.env {env env':List V} {v:V} {n':Nat} {L':Hp} (h:OpL P o env' n L v n' L') (he:∀ x∈o.op.operands,∀ φ y,Vr φ (ev env x) y->Vr φ (ev env' x) y):OpL P o env n L v n' L':=
 λφ a w Q hx hg hf=>h φ a w Q (λx hm=>he x hm φ _ (hx x hm)) hg hf
theorem OutOK.wk {env:List V} {out:Out} (h:OutOK P o (env.map iF) n L out):OutOK P o env n L out:=
 ⟨h.1.env λx _ φ y hy=>by rw[nZ];exact uQ hy,h.2⟩
def iL:TypeDesc->Bool
 | .int _=>false
 |_=>true
def JS:S->Bool
 | .bool _=>true
 | .int _ _=>true
 | .str _=>true
 |_=>false
def fG (P:Program) (L:Hp) (e:TypeId) (sz:Nat) (fl:Bool):V->Option (Option Nat×Nat×Bl×Prop)
 | .s (.slc none _ _)=>match dW P e with|some zs=>some (none,0,{cells:=[],ty:=e,flat:=fl&&zs.all JS},True)|none=>none
 | .s (.sla i g len)=>
   match lk L i with
   |some bl=>
    match bl.gh with
    |some (g',z)=>match Nat.beq g' g&&Nat.beq z sz&& !bl.ro&&Nat.beq bl.ty e&&bl.kind.isNone&&bl.abs.isNone with|true=>some (some i,len,bl,len*sz<=bl.cells.length)|false=>none
    |none=>none
   |none=>none
 | .s (.slc (some (i,0)) len (some cap))=>
   match lk L i with
   |some bl=>match !bl.ro&& !bl.more&&Nat.beq bl.ty e&&bl.kind.isNone&&bl.abs.isNone with|true=>some (some i,len,bl,bl.cells.length=cap*sz)|false=>none
   |none=>none
 |_=>none
def lenV:V->Option Nat
 | .s (.str l)=>some l.length
 | .s (.slc _ m _)=>some m
 | .s .emp=>some 0
 | .s .emq=>some 0
 | .s (.frz _ _ m)=>some m
 |_=>none
def fB:Option Nat->Hp
 |some i=>[(i,none)]
 |none=>[]
def CY (l:List S) (k:Nat):List S:=match Nat.beq l.length k with|true=>l|false=>l.take k
theorem CX (l:List S) (k:Nat):CY l k=l.take k:=by
 unfold CY;split
 ·rename_i h;have:=Z0q h;rw[<-this,Z1v]
 ·rfl
def pf (P:Program) (ts:Array TypeId) (n:Nat) (L:Hp) (fl:Bool) (d x:V) (ans:List Ans):Option Out:=
 match ts[0]?,ts[1]? with
 |some t,some tx=>
  match P.underlying t,P.underlying tx with
  |some (.slice e),some dx=>
   match iL dx,P.info? e,dW P e with
   |true,some inf,some zs=>
    match Nat.beq inf.size zs.length,fG P L e inf.size fl d with
    |true,some (bi,len,bl,C)=>
     match lenV x with
     |some m0=>
      match gc L inf.size m0 x with
      |some (foot,m,xs,D)=>
       match ans with
       | .app r cs::as_=>
         some ⟨⟨bi.toList++foot,.s (.sla n (n+1) r),fB bi++[(n,some {bl with cells:=cs,more:=true,sym:=true,gh:=some (n+1,inf.size)})],n+2⟩,as_,
          C/\D/\m0=m/\r=len+m/\cs=bl.cells.take (len*inf.size)++xs/\cf bl xs=true/\(bi=none->1<=m)/\r*inf.bytes<=140737488355328/\r<=140737488355328⟩
       |as_=>
        l6 (CY bl.cells (len*inf.size)++xs) [] λcs=>
        some ⟨⟨bi.toList++foot,.s (.sla n (n+1) (len+m)),fB bi++[(n,some {bl with cells:=cs,more:=true,gh:=some (n+1,inf.size)})],n+2⟩,as_,
         C/\D/\m0=m/\cf bl xs=true/\(bi=none->1<=m)/\(len+m)*inf.bytes<=140737488355328/\len+m<=140737488355328⟩
      |none=>none
     |none=>none
    |_,_=>none
   |_,_,_=>none
  |_,_=>none
 |_,_=>none
theorem iN {bl:Bl} {j:Nat}:lk (aA M (fB bi++[(n,some bl)])) j=if n=j then some bl else if bi=some j then none else lk M j:=by
 cases bi with
 |none=>grind [fB,aA,aC]
 |some i=>
  grind [fB,aA,aC]
theorem OpL.moved {env:List V} {bl':Bl} {r:Nat}
 (h:∀ φ (a:Act) (w:World),(∀ x∈o.op.operands,Vr φ (ev env x) (a.eval x))->Good φ M w->∃ (b':Nat×Nat) (k:Nat) (w':World),(execOp a.eval o).run P w=.ok (.value (.slice (some ⟨b'.1,b'.2,none⟩) r k)) w'/\w'.os=w.os/\w'.tape=w.tape/\w'.output=w.output/\r<=k/\
   w.heap.size<=w'.heap.size/\(∀ c,c<w.heap.size->c≠b'.1->w'.heap[c]? =w.heap[c]?)/\(b'.1<w.heap.size->∃ i blo c,bi=some i/\lk M i=some blo/\φ i=some c/\c.1=b'.1/\blo.ro=false)/\
   (∀ φ':Ph,φ.le φ'->φ' (n+1)=some (k,0)->BlAt φ' w' b' bl')) (hro:bl'.ro=false):
 OpL P o env n M (.s (.sla n (n+1) r)) (n+2) (aA M (fB bi++[(n,some bl')])):=by
 intro φ a w Q hx hg hf;obtain⟨b',k,w',hr,h1,h2,h3,hrk,hsz,hkeep,hold,hat⟩:=h φ a w hx hg;have f0:=hf n (Z02 _) aa;have f1:=hf (n+1) aa aa
 let φ':Ph:=⟨λj=>if j=n then some b' else if j=n+1 then some (k,0) else φ j,φ.z⟩
 have hle:φ.le φ':=by
  refine⟨λj b hb=>?_,λ_ _ h=>h⟩
  grind
 have hn:φ' n=some b':=ae;have hn1:φ' (n+1)=some (k,0):=ae
 --another block that is known lies elsewhere
 have apart:∀ j bj b,lk M j=some bj->φ j=some b->bi≠some j->b.1≠b'.1:=by
  intro j bj b hj hb hbi hbb;obtain⟨b2,hb2,hatj⟩:=hg.hr j bj hj;rw[hb] at hb2;cases hb2;obtain⟨i,blo,c,rfl,hi,hpi,hcc,hroi⟩:=hold (hbb▸hatj.lt)
  rcases hg.inj j i bj blo b c hj hi hb hpi (hbb.trans hcc.symm) with rfl|⟨_,e⟩
  all_goals grind
 have old:∀ j bj,lk (aA M (fB bi++[(n,some bl')])) j=some bj->n≠j->lk M j=some bj/\bi≠some j/\φ' j=φ j:=by
  grind [iN,hg.hr]
 unfold Oper.wp;rw[hr,Z3q];refine⟨φ',_,rfl,⟨b',k,hn,hn1,rfl,hrk⟩,⟨λj bj hj=>?_,λj j' bj bj' b b₂ hj hj' hb hb' hbb=>?_,λb l hb=>?_,hg.gz⟩,⟨h1,h2,h3,hsz,λc hc hnw=>?_,λj bj b hj hb hlt=>?_,λ_ _ h=>h,λ_ _ h=> .inl h⟩,λi hi=>?_⟩
 rotate_left 2
 ·have hlt:=hg.fzlt hb
  have hne:b≠b'.1:=by
   intro e;obtain⟨i,blo,c,_,hi,hpi,hcc,hroi⟩:=hold (e▸hlt);exact (hg.fz b l hb).2 ⟨i,blo,c,hi,hpi,hcc.trans e.symm,hroi⟩
  refine⟨by rw[hkeep b hlt hne];exact (hg.fz b l hb).1,?_⟩;rintro⟨j,bj,c,hj,hc,hcb,hroj⟩;by_cases e:n=j
  ·grind
  ·obtain⟨hm,_,hφ⟩:=old j bj hj e
   exact (hg.fz b l hb).2 ⟨j,bj,c,hm,ae,hcb,hroj⟩
 rotate_left 3
 ·by_cases e:n=j
  ·grind [iN]
  ·obtain⟨hm,hbi,hφ⟩:=old j bj hj e
   obtain⟨b,hb,hatj⟩:=hg.hr j bj hm;exact⟨b,ae,hatj.mono hle (hkeep b.1 hatj.lt (apart j bj b hm hb hbi))⟩
 ·by_cases e:n=j<;>by_cases e':n=j'
  ·exact .inl (e▸e')
  ·subst e
   obtain⟨hm,hbi,hφ⟩:=old j' bj' hj' e';rw[hn] at hb;cases hb;exact absurd hbb.symm (apart j' bj' b₂ hm (by rw[<-hφ];exact hb') hbi)
  ·subst e'
   obtain⟨hm,hbi,hφ⟩:=old j bj hj e;rw[hn] at hb';cases hb';exact absurd hbb (apart j bj b hm (by rw[<-hφ];exact hb) hbi)
  ·obtain⟨hm,_,hφ⟩:=old j bj hj e
   obtain⟨hm',_,hφ'⟩:=old j' bj' hj' e';exact hg.inj j j' bj bj' b b₂ hm hm' (by rw[<-hφ];exact hb) (by rw[<-hφ'];exact hb') hbb
 ·refine hkeep c hc ?_
  rintro rfl;obtain⟨i,blo,c,_,hi,hpi,hcc,hroi⟩:=hold hc;exact hnw ⟨i,blo,c,hi,hpi,hcc,hroi⟩
 all_goals grind
theorem f_ (z:Array Value) (k:Nat):(Builtin.zeroCells z k).size=k*z.size:=by simp[Builtin.zeroCells]
section
variable {P:Program} {ts:Array TypeId} {ty t tx e:TypeId} {inf:TypeInfo} {dx:TypeDesc}
theorem uz (h0:ts[0]? =some t) (h1:ts[1]? =some tx) (ht:P.underlying t=some (.slice e)) (hx:P.underlying tx=some dx) (hdx:iL dx=true) (hi:P.info? e=some inf) {zv:Value} (hz:inf.zero=some zv) {base:Option Addr} {len cap:Nat} {x:Value} {old new:Array Value}
 (hlen:∀ w,(Builtin.lenOf x).run P w=.ok n w) (hold:∀ d,(Builtin.firstCells inf.size len (.slice base len cap)).run P {w with drawn:=d}=.ok old {w with drawn:=d}) (hnew:∀ d,(Builtin.firstCells inf.size n x).run P {w with drawn:=d}=.ok new {w with drawn:=d})
 (hgrow:cap<len+n) (hbig:(len+n)*inf.bytes<=140737488355328) (hmax:len+n<=140737488355328):
 ∃ c,len+n<=c/\∃ rest:Array Value,rest.size=(c-(len+n))*zv.cells.size/\(Builtin.append_ ts ty #[.slice base len cap,x]).run P w=.ok (.slice (some ⟨w.heap.size,0,none⟩) (len+n) c) {w with drawn:=w.drawn+1,heap:=w.heap.push (.cells (old++new++rest) e)}:=by
 have hsz:(sizeOf e).run P w=.ok inf.size w:=by simp[sizeOf,typeInfo,hi]
 have hti:∀ w,(typeInfo e).run P w=.ok inf w:=λw=>by simp[typeInfo,hi]
 have hzv:∀ w,(zeroValue e).run P w=.ok zv w:=λw=>by simp[zeroValue,typeInfo,hi,hz]
 have c1: ¬(len+n<=cap):=aa
 have c2: ¬(((len+n:Nat):Int)>IntKind.i64.max/\(False\/inf.bytes=0)):=by
  have:IntKind.i64.max=9223372036854775807:=ac
  grind
 have c3: ¬(Builtin.nextslicecap (len+n) cap*inf.bytes>2^48):=by
  have:=growslice_fits (bytes:=inf.bytes) hgrow hbig
  grind
 refine⟨(Question.appendCap (len+n) cap e).cut (w.tape w.drawn (.appendCap (len+n) cap e)),by simp only[Question.cut];omega,Builtin.zeroCells zv.cells ((Question.appendCap (len+n) cap e).cut (w.tape w.drawn (.appendCap (len+n) cap e))-(len+n)),f_ _ _,?_⟩;unfold Builtin.append_;simp only[h0,h1,Z1a,Z11,Z23,Z09,Ab.run_underlying ht,Ab.run_underlying hx,Z05,hsz,Z0f]
 cases dx<;>first|cases hdx|skip
 all_goals
  simp only[Z0l,if_false,Z2f,if_true,hlen,Z09,Z05,Z0f,if_neg c1,hti,if_neg c2,if_neg c3,run_choose,Question.forced,run_askRoom,hold,hnew,hzv,newRow,run_newObj]
end
theorem Bw {size k:Nat} {x:V} {foot:List Nat} {m:Nat} {xs:List S} {C:Prop} (h:gc L size k x=some (foot,m,xs,C)) (hC:C) (hk:k<=m) (hg:Good φ M w) (hf:∀ i∈foot,lk M i=lk L i) (hv:Vr φ x v):
 (∀ w',(Builtin.lenOf v).run P w'=.ok m w')/\∃ vs:List Value,(∀ d,(Builtin.firstCells size k v).run P {w with drawn:=d}=.ok vs.toArray {w with drawn:=d})/\All2 (Sr φ) xs vs/\xs.length=k*size:=by
 unfold gc at h;split at h
 ·rename_i l
  simp only[Vr,Sr] at hv;subst hv;split at h
  ·simp only[Z06,Z0j] at h
   obtain⟨rfl,rfl,rfl,rfl⟩:=h;refine⟨λ_=>rfl,(l.take k).map λ(b:UInt8)=>Value.int .u8 (b.toNat:Int),λd=>?_,oY _,by simp[md];omega⟩;simp only[Builtin.firstCells,Z0f];congr 1;apply Z3v;simp[Z5p]
  ·cases h
 ·simp only[Z06,Z0j] at h
  obtain⟨rfl,rfl,rfl,rfl⟩:=h;obtain⟨_,_,rfl⟩:=hv;exact⟨λ_=>rfl,[],λ_=>rfl,trivial,ae⟩
 ·simp only[Z06,Z0j] at h
  obtain⟨rfl,rfl,rfl,rfl⟩:=h;obtain⟨a,rfl⟩:=hv;subst hC;exact⟨λ_=>rfl,[],λ_=>by simp[Builtin.firstCells,loadCells,loadCellsFrom],trivial,aq⟩
 ·simp only[Z06,Z0j] at h
  obtain⟨rfl,rfl,rfl,rfl⟩:=h;obtain⟨a,kk,rfl⟩:=hv;subst hC;exact⟨λ_=>rfl,[],λ_=>by simp[Builtin.firstCells,loadCells,loadCellsFrom],trivial,aq⟩
 ·rename_i j p mm c
  split at h
  ·rename_i bl hl
   simp only[Z06,Z0j] at h;obtain⟨rfl,rfl,rfl,rfl⟩:=h;obtain⟨b,kc,hb,rfl,_⟩:=hv;obtain⟨b',hb',hat⟩:=hg.hr j bl ae;rw[hb] at hb';cases hb';refine⟨λ_=>rfl,?_⟩;obtain⟨hC,hkd⟩:=hC;obtain⟨pre,ys,rest,fr,h1,hp,h2,h3,h4⟩:=hat;rw[hkd] at h1;simp only[di] at h1;have hlen:=h2.len;have hv2:All2 (Sr φ) ((bl.cells.drop p).take (k*size)) ((ys.drop p).take (k*size)):=((h2.mono λ_ _=>Sr.mono (bl.ph_le_self φ)).drop p).take _;have hl2:((ys.drop p).take (k*size)).length=k*size:=ae;refine⟨(ys.drop p).take (k*size),λd=>?_,hv2,ae⟩
   have hld:=bA (P:=P) (w:={w with drawn:=d}) (b:=b.1) (o:=p+b.2) ((ys.drop p).take (k*size)) 0 #[] (by
    intro i v hi
    have hi':i<k*size:=by
     rcases Z0a i ((ys.drop p).take (k*size)).length with h|h
     ·omega
     ·simp[Z0b h] at hi
    simp only[Z2w,Z2k,if_pos hi'] at hi;simp only[World.cell?,h1];have:p+i<ys.length:=aa;simp only[Z2b,Z0l,if_false,Z1a,Z0c]
    rw[show p+b.2+i=(p+i)+b.2 by omega,iJ pre _ hp,Z0x this];exact hi)
   grind [Builtin.firstCells,loadCells]
  ·cases h
 ·rename_i get sz mm
  split at h
  ·rename_i hb
   have hb:=Z0q hb;subst hb;simp only[Z06,Z0j] at h;obtain⟨rfl,rfl,rfl,rfl⟩:=h;have hv:Pr φ.z (.frz get sz mm) v:=hv
   cases hv with
   |nil get' sz' a c=>
    obtain rfl:k=0:=aa;exact⟨λ_=>rfl,[],λ_=>by cases a<;>simp[Builtin.firstCells,loadCells,loadCellsFrom],trivial,by simp[cX]⟩
   |frz get' sz' n' b o c vs h1 hn val hl hvv hx=>
    obtain⟨ys,q1,q2,q3⟩:=rW (φ:=φ) hl hvv hx k hk;refine⟨λ_=>rfl,ys,λd=>?_,q2,by rw[<-q2.len,q1]⟩;obtain⟨⟨ty,fr,hb⟩,_⟩:=hg.fz b vs h1
    have hld:=bA (P:=P) (w:={w with drawn:=d}) (b:=b) (o:=o) ys 0 #[] (by
     intro i v hi;simp only[World.cell?,hb,Z2b,Z0l,if_false,Z1a,Z0c]
     exact q3 i v hi)
    grind [Builtin.firstCells,loadCells]
  ·cases h
 ·cases h
theorem ez {env:List V} {c:Call} {d x:Operand} {t tx e:TypeId} {dx:TypeDesc} {inf:TypeInfo} {zs:List S} {len:Nat} {bl:Bl} {C:Prop} {foot:List Nat} {m:Nat} {xs:List S} {D:Prop} {cs:List S} {sy:Bool} {r:Nat}
 (ho:o.op=.call c) (hc:c.callee=.builtin .append) (hargs:c.args.toList=[d,x]) (ht0:c.argTypes[0]? =some t) (ht1:c.argTypes[1]? =some tx) (ht:P.underlying t=some (.slice e)) (hx:P.underlying tx=some dx) (hdx:iL dx=true)
 (hi:P.info? e=some inf) (hz:dW P e=some zs) (hsz:inf.size=zs.length) {fl:Bool} (hb:fG P L e inf.size fl (ev env d)=some (bi,len,bl,C)) {m0:Nat} (hs:gc L inf.size m0 (iF (ev env x))=some (foot,m,xs,D))
 (hC:C) (hD:D) (hm:m0=m) (hr:r=len+m) (hcs:cs=bl.cells.take (len*inf.size)++xs) (hfit:cf bl xs=true) (hnil:bi=none->1<=m) (hbig:r*inf.bytes<=140737488355328) (hmax:r<=140737488355328):
 OpL P o env n (res (bi.toList++foot) L) (.s (.sla n (n+1) r)) (n+2) (aA (res (bi.toList++foot) L) (fB bi++[(n,some {bl with cells:=cs,more:=true,sym:=sy,gh:=some (n+1,inf.size)})])):=by
 subst hr
 have hrk:bl.ro=false/\bl.kind=none/\bl.abs=none:=by
  unfold fG at hb
  grind [Option.isNone_iff_eq_none]
 obtain⟨hro,hkd,habs⟩:=hrk;refine OpL.moved ?_ hro;intro φ a w hop hg
 have opd:d∈o.op.operands:=by rw[ho];simp only[Op.operands,Call.operands,hc];simp[<-Z3n,hargs]
 have opx:x∈o.op.operands:=by rw[ho];simp only[Op.operands,Call.operands,hc];simp[<-Z3n,hargs]
 have g1:=hop d opd;have g2:=uQ (hop x opx);obtain⟨hlen,vs,hvs,hall,hxl⟩:=Bw (P:=P) hs hD ae hg (λj hj=>by rw[bJ,if_pos (by simp[hj])]) g2;rw[hm] at hvs hxl;have hvl:=hall.len
 have ea:c.args.map a.eval= #[a.eval d,a.eval x]:=by apply Z3v;simp[hargs]
 have hexec:∀ y w',(Builtin.append_ c.argTypes o.type #[a.eval d,a.eval x]).run P w=.ok y w'->(execOp a.eval o).run P w=.ok (.value y) w':=by
  intro y w' h;simp only[execOp,ho,resolve,hc,Z09,Z0f,Z05,invoke,builtin,ea,h]
 obtain⟨zv,hzv⟩:∃ zv,inf.zero=some zv:=by
  grind [dW]
 have hzs:zv.cells.size=inf.size:=by
  obtain⟨z,hr,ha⟩:=fZ hz w
  have:z=zv:=by simp[zeroValue,typeInfo,hi,hzv] at hr;exact hr.symm
  subst this;rw[<-Z28,(ha ⟨λ_=>none,λ_=>none⟩).len,hsz]
 --the cells that are there,and that the new ones fit the block
 have fits:∀ (φ':Ph),φ.le φ'->All2 (Sr (bl.ph φ')) xs vs:=by
  intro φ' hle;unfold cf at hfit;unfold Bl.ph
  cases hf:bl.flat with
  |false=>simpa [hf] using hall.mono λ_ _=>Sr.mono hle
  |true=>rw[hf] at hfit;exact il (φ:=φ) (ψ:=⟨λ_=>none,φ'.z⟩) hle.z hfit hall
 have grown:∀ (base:Option Addr) (cap:Nat) (old:List Value),a.eval d=.slice base len cap->cap<len+m->(∀ k,(Builtin.firstCells inf.size len (.slice base len cap)).run P {w with drawn:=k}=.ok old.toArray {w with drawn:=k})->
  old.length=len*inf.size->bl.ty=e->(∀ φ':Ph,φ.le φ'->All2 (Sr (bl.ph φ')) (bl.cells.take (len*inf.size)) old)->
  ∃ (b':Nat×Nat) (k:Nat) (w':World),(execOp a.eval o).run P w=.ok (.value (.slice (some ⟨b'.1,b'.2,none⟩) (len+m) k)) w'/\w'.os=w.os/\w'.tape=w.tape/\w'.output=w.output/\len+m<=k/\
  w.heap.size<=w'.heap.size/\(∀ c,c<w.heap.size->c≠b'.1->w'.heap[c]? =w.heap[c]?)/\(b'.1<w.heap.size->∃ i blo c,bi=some i/\lk (res (bi.toList++foot) L) i=some blo/\φ i=some c/\c.1=b'.1/\blo.ro=false)/\
  (∀ φ':Ph,φ.le φ'->φ' (n+1)=some (k,0)->BlAt φ' w' b' {bl with cells:=cs,more:=true,sym:=sy,gh:=some (n+1,inf.size)}):=by
  intro base cap old hd hgrow hold holen hty hoall;obtain⟨k,hk,rest,hrs,hrun⟩:=uz (ty:=o.type) ht0 ht1 ht hx hdx hi hzv (w:=w) (x:=a.eval x) (base:=base) (cap:=cap) hlen hold hvs hgrow hbig hmax;refine⟨(w.heap.size,0),k,{w with drawn:=w.drawn+1,heap:=w.heap.push (.cells (old.toArray++vs.toArray++rest) e)},hexec _ _ ae,rfl,rfl,rfl,hk,aq,λc hc _=>?_,λh=>absurd h (Z40 _),λφ' hle hk'=>?_⟩
  ·grind
  ·refine⟨[],old++vs,rest.toList,(0,0),?_,rfl,?_,(λe=>by cases e),(λ_ o' ho'=>by simp),⟨λg z e'=>?_,λg e'=>ae⟩⟩
   ·show (w.heap.push _)[w.heap.size]? =_
    simp[hty,hkd,di]
   ·rw[hcs];exact (hoall φ' hle).append (fits φ' hle)
   ·simp only[Z06,Z0j] at e'
    obtain⟨rfl,rfl⟩:=e';refine⟨k,hk',?_⟩;rw[hzs] at hrs;simp only[Z03,Z28,hrs,holen,hvl,hxl];rw[<-Z2q,<-Z2q];exact Z1w _ aa
 have fitted:∀ (i:Nat) (b:Nat×Nat) (cap:Nat) (pre arr:List Value) (fr:Nat×Nat),pre.length=b.2->bi=some i->lk (res (bi.toList++foot) L) i=some bl->φ i=some b->a.eval d=.slice (some ⟨b.1,b.2,none⟩) len cap->w.heap[b.1]? =some (.cells (pre++arr).toArray bl.ty fr)->(∀ x,x<(pre++arr).length->(fr.1<=x&&x<fr.2)=false)->
  cap*inf.size<=arr.length->len*inf.size<=bl.cells.length->bl.ty=e->(∀ φ':Ph,φ.le φ'->All2 (Sr (bl.ph φ')) (bl.cells.take (len*inf.size)) (arr.take (len*inf.size)))->len<=cap->
  ∃ (b':Nat×Nat) (k:Nat) (w':World),(execOp a.eval o).run P w=.ok (.value (.slice (some ⟨b'.1,b'.2,none⟩) (len+m) k)) w'/\w'.os=w.os/\w'.tape=w.tape/\w'.output=w.output/\len+m<=k/\
  w.heap.size<=w'.heap.size/\(∀ c,c<w.heap.size->c≠b'.1->w'.heap[c]? =w.heap[c]?)/\(b'.1<w.heap.size->∃ i blo c,bi=some i/\lk (res (bi.toList++foot) L) i=some blo/\φ i=some c/\c.1=b'.1/\blo.ro=false)/\
  (∀ φ':Ph,φ.le φ'->φ' (n+1)=some (k,0)->BlAt φ' w' b' {bl with cells:=cs,more:=true,sym:=sy,gh:=some (n+1,inf.size)}):=by
  intro i b cap pre arr fr hp hbi hli hpi hd hblk hfr hal hcl hty hoall hlc
  have hlen2:(arr.take (len*inf.size)).length=len*inf.size:=by
   rw[Z19];exact Z45 (Z1z (Z1w _ hlc) hal)
  by_cases hfits:len+m<=cap
  ·have hroom:len*inf.size+m*inf.size<=arr.length:=by rw[<-Z2q];exact Z1z (Z1w _ hfits) hal
   have hcellv:∀ v∈vs,gu v=true:=λz hz=>by
    obtain⟨j,hj,hz⟩:=List.getElem_of_mem hz;obtain⟨s,hsm,hs⟩:=hall.get' (i:=j) (b:=z) ae;exact hs.cell (m7 hfit hsm)
   obtain⟨w',hr,q1,q2,q3,q4,q5,q6⟩:=eC (P:=P) (b:=b.1) (o:=b.2+len*inf.size) vs 0 w (pre++arr) hblk hcellv ae hfr
   have hst:(storeCells (Addr.add ⟨b.1,b.2,none⟩ (len*inf.size)) vs.toArray.toList).run P w=.ok () w':=by
    rw[bw];simpa using hr
   have hrun:=zh (ty:=o.type) ht0 ht1 ht hx (λk hk=>by subst hk;cases hdx) hi (a:=⟨b.1,b.2,none⟩) (len:=len) (cap:=cap) (hlen w) (hvs w.drawn) hfits hst;refine⟨b,cap,w',hexec _ _ ae,q1,q2,q3,hfits,aa,λc _ hne=>q6 c hne,λ_=>⟨i,bl,b,hbi,hli,hpi,rfl,hro⟩,λφ' hle hk'=>?_⟩
   have harr:bW (pre++arr) (b.2+len*inf.size+0) vs=pre++(arr.take (len*inf.size)++(vs++(arr.drop (len*inf.size)).drop vs.length)):=by
    rw[Z0p,Z4k,ly _ _ _ _ _ hp];have:=lz vs (arr.take (len*inf.size)) (arr.drop (len*inf.size)) ae;rw[Z2m,hlen2] at this;rw[this]
   refine⟨pre,arr.take (len*inf.size)++vs,(arr.drop (len*inf.size)).drop vs.length,fr,?_,hp,?_,(λe=>by cases e),(λ_ o' ho'=>?_),⟨λg z e'=>?_,λg e'=>ae⟩⟩
   ·rw[q5,harr,Z14,show ({bl with cells:=cs,more:=true,sym:=sy,gh:=some (n+1,inf.size)}:Bl).kind=none from hkd];rfl
   ·rw[hcs];exact (hoall φ' hle).append (fits φ' hle)
   all_goals grind
  ·refine grown (some ⟨b.1,b.2,none⟩) cap (arr.take (len*inf.size)) hd aa (λk=>?_) hlen2 hty hoall
   have hld:=bA (P:=P) (w:={w with drawn:=k}) (b:=b.1) (o:=b.2) (arr.take (len*inf.size)) 0 #[] (by
    intro j v hj
    have hj':j<len*inf.size:=by
     rcases Z0a j (arr.take (len*inf.size)).length with h|h
     ·omega
     ·simp[Z0b h] at hj
    rw[Z2w,if_pos hj'] at hj;have:w.heap[b.1]? =some (.cells (pre++arr).toArray bl.ty fr):=hblk;show World.cell? {w with drawn:=k} _=_;simp only[World.cell?,this];simp only[Z2b,Z0l,if_false,Z1a,Z0c]
    rw[Z4k,iJ pre _ hp];exact hj)
   rw[hlen2] at hld
   simpa [Builtin.firstCells,loadCells] using hld
 have hb0:=hb;unfold fG at hb;split at hb
 ·rename_i q1 q2 hd
  split at hb
  ·cases hb
   rw[hd] at g1;obtain⟨rfl,_,hv⟩:=g1;exact grown none 0 [] hv ae (λk=>by simp[Builtin.firstCells]) aq rfl (λφ' _=>by simp[All2])
  ·cases hb
 ·rename_i i g ln hd
  split at hb
  ·rename_i bl0 hl
   split at hb
   ·rename_i g' z hgh
    split at hb
    ·rename_i hk
     simp only[Z07,Z0v] at hk;obtain⟨⟨⟨⟨⟨k1,k2⟩,k3⟩,k4⟩,k6⟩,k7⟩:=hk;have k6:bl0.kind=none:=ae;have k1:=Z0q k1;have k2:=Z0q k2;have k4:=Z0q k4;simp only[Z06,Z0j] at hb;obtain⟨rfl,rfl,rfl,rfl⟩:=hb;rw[hd] at g1;obtain⟨b,cap,hpb,hpg,hv,hlc⟩:=g1
     have hli:lk (res ((some i).toList++foot) L) i=some bl0:=by rw[bJ,if_pos aq];exact hl
     obtain⟨b2,hb2,pre,ys,rest,fr,p1,hp,p2,p3,p4,p5⟩:=hg.hr i bl0 hli;rw[hpb] at hb2;cases hb2;rw[k6] at p1;simp only[di] at p1;obtain⟨kk,hkk,hlenk⟩:=p5.1 g' z hgh;rw[k1,hpg] at hkk;cases hkk;refine fitted i b cap pre (ys++rest) fr hp rfl hli hpb hv p1 (p4 k3) ae hC k4 (λφ' hle=>?_) hlc;have:(ys++rest).take (ln*inf.size)=ys.take (ln*inf.size):=Z3o (by rw[p2.len];exact hC);rw[this];exact (p2.mono λ_ _=>Sr.mono (bl0.ph_le hle)).take _
    ·cases hb
   ·cases hb
  ·cases hb
 ·rename_i i ln cap0 hd
  split at hb
  ·rename_i bl0 hl
   split at hb
   ·rename_i hk
    simp only[Z07,Z0v] at hk;obtain⟨⟨⟨⟨k1,k2⟩,k4⟩,k6⟩,k7⟩:=hk;have k6:bl0.kind=none:=ae;have k4:=Z0q k4;simp only[Z06,Z0j] at hb;obtain⟨rfl,rfl,rfl,rfl⟩:=hb;rw[hd] at g1;obtain⟨b,cap,hpb,hv,hlc,hcap⟩:=g1
    have hcap:cap0=cap:=by
     grind
    subst hcap
    have hli:lk (res ((some i).toList++foot) L) i=some bl0:=by rw[bJ,if_pos aq];exact hl
    obtain⟨b2,hb2,pre,ys,rest,fr,p1,hp,p2,p3,p4,p5⟩:=hg.hr i bl0 hli;rw[hpb] at hb2;cases hb2;rw[k6] at p1;simp only[di] at p1;have hrest:=p3 k2;subst hrest;have hyl:=p2.len;refine fitted i b cap0 pre (ys++[]) fr hp rfl hli hpb ae p1 (p4 k1) ae (by rw[hC];exact Z1w _ hlc) k4 (λφ' hle=>?_) hlc;rw[Z0u];exact (p2.mono λ_ _=>Sr.mono (bl0.ph_le hle)).take _
   ·cases hb
  ·cases hb
 ·cases hb
theorem zy {env:List V} {ans:List Ans} {out:Out} {c:Call} {d x:Operand} (ho:o.op=.call c) (hc:c.callee=.builtin .append) (hargs:c.args.toList=[d,x])
 {fl:Bool} (h:pf P c.argTypes n L fl (ev env d) (iF (ev env x)) ans=some out) (hC:out.C):OutOK P o env n L out:=by
 unfold pf at h;split at h
 ·rename_i t tx h0 h1
  split at h
  ·rename_i e dx ht hx
   split at h
   ·rename_i inf zs hdx hi hz
    split at h
    ·rename_i bi len bl C hsz hb
     have hsz:=Z0q hsz;split at h
     ·rename_i m0 hm0
      split at h
      ·rename_i foot m xs D hs
       split at h
       ·rename_i r cs as_
        cases h;obtain⟨c1,c2,c3,c4,c5,c6,c7,c8,c9⟩:=hC;exact⟨ez ho hc hargs h0 h1 ht hx hdx hi hz hsz hb hs c1 c2 c3 c4 c5 c6 c7 c8 c9,Z1o _ _⟩
       ·rw[cO] at h
        cases h;obtain⟨c1,c2,c3,c6,c7,c8,c9⟩:=hC;exact⟨ez ho hc hargs h0 h1 ht hx hdx hi hz hsz hb hs c1 c2 c3 rfl (by rw[CX]) c6 c7 c8 c9,Z1o _ _⟩
      ·cases h
     ·cases h
    ·cases h
   ·cases h
  ·cases h
 ·cases h
end
section
variable {P:Program} {env:List V} {n k:Nat} {L:Hp} {x:Operand} {as_:List Ans} {out:Out} {o:Oper} {t:TypeId} {cs:List S}
def Ij:Option V->Nat->Nat->Option Prop
 |none,k,d=>some (k=d)
 |some (.s (.int _ z)),k,_=>some (z=(k:Int))
 |_,_,_=>none
def F8 (P:Program) (n:Nat) (L:Hp) (t:TypeId) (x:V) (lo hi mx:Option V) (k h:Nat) (cs:List S) (as_:List Ans):Option Out:=
 match mx,P.underlying t,x with
 |none,some (.slice e),.s (.sla i g len)=>
  match cE P e,lk L i with
  |some sz,some bl=>
   match bl.gh with
   |some (g',z)=>
    match Nat.beq g' g&&Nat.beq z sz&& !bl.ro with
    |true=>
     match Ij lo k 0,Ij hi h len with
     |some A,some B=>some ⟨⟨[i],.s (.sla n (n+1) (h-k)),fB (some i)++[(n,some {bl with cells:=cs,more:=true,gh:=some (n+1,sz),abs:=none})],n+2⟩,as_,A/\B/\k<=h/\h<=len/\h*sz<=bl.cells.length/\cs=(bl.cells.drop (k*sz)).take ((h-k)*sz)⟩
     |_,_=>none
    |false=>none
   |none=>none
  |_,_=>none
 |_,_,_=>none
theorem ux {φ:Ph} {a:Act} {w:World} {x:Option Operand} {d top:Nat} {A:Prop} {code:BoundsCode} (hx:∀ y,x=some y->Vr φ (ev env y) (a.eval y)) (h:Ij (x.map (ev env)) k d=some A) (hA:A) (hk:k<=top):
 (match x.map a.eval with|some v=>Instr.sliceBound v top code|none=>pure d).run P w=.ok k w:=by
 cases x with
 |none=>obtain rfl:k=d:=by simp[Ij] at h;exact h.2 hA
        rfl
 |some y=>
  have q:=hx y rfl;simp only[Z1j] at h |-
  cases hv:ev env y with
  |s s=>
   rw[hv] at h q
   cases s with
   |int kk z=>
    simp only[Ij,Z06] at h;subst h;subst hA;simp only[Vr,Sr] at q;simp only[Instr.sliceBound,q,asIntOf,Z09,Z0f,Z05];rw[if_pos aa];simp
   |_=>simp[Ij] at h
  |_=>rw[hv] at h;simp[Ij] at h
theorem Ir {lo hi mx:Option Operand} {h:Nat} (ho:o.op=.slice t x lo hi mx)
 (hh:F8 P n L t (ev env x) (lo.map (ev env)) (hi.map (ev env)) (mx.map (ev env)) k h cs as_=some out) (hC:out.C):OutOK P o env n L out:=by
 have hmx:mx=none:=by
  cases mx with
  |none=>rfl
  |some _=>simp[F8] at hh
 subst hmx;unfold F8 at hh;split at hh
 ·rename_i e i g len _ hty hx
  split at hh
  ·rename_i sz bl hsz hl
   split at hh
   ·rename_i g' z hgh
    split at hh
    ·rename_i hchk
     simp only[Z07,Z0v] at hchk;obtain⟨⟨e1,e2⟩,hro⟩:=hchk;have e1:=Z0q e1;have e2:=Z0q e2;subst e1;subst e2;split at hh
     ·rename_i A B hA hB
      cases hh;obtain⟨cA,cB,ckh,FE,ccl,ccs⟩:=hC;refine⟨OpL.moved (bi:=some i) (r:=h-k) (λφ a w hop hg=>?_) hro,Z1o _ _⟩;have g1:=hop x (by simp[ho,Op.operands]);rw[hx] at g1;obtain⟨b,c,hb,hgc,hv,hlc⟩:=g1;obtain⟨b2,hb2,pre,ys,rest,fr,p1,hp,p2,p3,p4,p5⟩:=hg.hr i bl (by rw[bJ,if_pos aq];exact hl);rw[hb] at hb2;cases hb2;obtain⟨kk,hkk,hlenk⟩:=p5.1 _ _ hgh;rw[hgc] at hkk;cases hkk;have hyl:=p2.len;have r1:=ux (P:=P) (w:=w) (top:=h) (code:=.sliceB) (λy hy=>hop y (by subst hy;simp[ho,Op.operands])) hA cA ckh;have r2:=ux (P:=P) (w:=w) (top:=c) (code:=.sliceAcap) (λy hy=>hop y (by subst hy;simp[ho,Op.operands])) hB cB aa
      have hsb:(Instr.sliceBounds true len c (lo.map a.eval) (hi.map a.eval) none).run P w=.ok (k,h,c) w:=by
       unfold Instr.sliceBounds
       cases hi<;>cases lo<;>simp_all
      refine⟨(b.1,if c=k then b.2 else b.2+k*z),c-k,w,?_,rfl,rfl,rfl,aa,Z02 _,λ_ _ _=>rfl,λ_=>⟨i,bl,b,rfl,by rw[bJ,if_pos aq];exact hl,hb,rfl,hro⟩,λφ' hle hk'=>?_⟩
      ·simp only[execOp,ho,hv,Z2g,Instr.sliceAt,Instr.slice,Z09,run_underlying hty,Z05,hsb,aI hsz,Z1j,bw,Z0f]
       split<;>rfl
      ·by_cases hck:c=k
       ·have h0:h-k=0:=aa
        simp only[if_pos hck];refine⟨pre,[],ys++rest,fr,p1,hp,?_,(λe=>by cases e),λe=>p4 e,⟨λg z e'=>?_,λ_ e'=>(by cases e')⟩⟩
        ·rw[ccs,h0,Z24];simp[All2]
        all_goals grind
       ·simp only[if_neg hck]
        have hks:k*z<=ys.length:=by rw[hyl];exact Z1z (Z1w _ ckh) ccl
        have hd:(h-k)*z<=(ys.drop (k*z)).length:=by rw[Z1u,hyl,Nat.sub_mul];omega
        refine⟨pre++ys.take (k*z),(ys.drop (k*z)).take ((h-k)*z),(ys.drop (k*z)).drop ((h-k)*z)++rest,fr,?_,?_,?_,(λe=>by cases e),λe o' ho'=>p4 e o' ?_,⟨λg z' e'=>?_,λ_ e'=>(by cases e')⟩⟩
        ·rw[p1];congr 2
         rw[Z14,<-Z14 (List.take _ (List.drop _ ys)),Z2m,<-Z14 (List.take _ ys),Z2m]
        ·grind
        ·rw[ccs];exact ((p2.mono λ_ _=>Sr.mono (bl.ph_le hle)).drop _).take _
        all_goals grind [Nat.sub_mul]
     ·cases hh
    ·cases hh
   ·cases hh
  ·cases hh
 ·cases hh
def xp (P:Program) (n:Nat) (t:TypeId) (x:V) (lo hi mx:Option V) (k h:Nat) (as_:List Ans):Option Out:=
 match mx,P.underlying t,x with
 |none,some (.slice e),.s (.sla i g len)=>
  match cE P e with
  |some sz=>
   match Ij lo k 0,Ij hi h len with
   |some A,some B=>some ⟨⟨[],.w i g sz k (h-k),[],n⟩,as_,A/\B/\k<=h/\h<=len⟩
   |_,_=>none
  |none=>none
 |_,_,_=>none
theorem F7 {lo hi mx:Option Operand} {h:Nat} (ho:o.op=.slice t x lo hi mx)
 (hh:xp P n t (ev env x) (lo.map (ev env)) (hi.map (ev env)) (mx.map (ev env)) k h as_=some out) (hC:out.C):OutOK P o env n L out:=by
 have hmx:mx=none:=by
  cases mx with
  |none=>rfl
  |some _=>simp[xp] at hh
 subst hmx;unfold xp at hh;split at hh
 ·rename_i e i g len _ hty hx
  split at hh
  ·rename_i sz hsz
   split at hh
   ·rename_i A B hA hB
    cases hh;obtain⟨cA,cB,ckh,FE⟩:=hC;refine⟨OpL.light λφ a w hop hg=>?_,Z02 _⟩;have g1:=hop x (by simp[ho,Op.operands]);rw[hx] at g1;obtain⟨b,c,hb,hgc,hv,hlc⟩:=g1;have r1:=ux (P:=P) (w:=w) (top:=h) (code:=.sliceB) (λy hy=>hop y (by subst hy;simp[ho,Op.operands])) hA cA ckh;have r2:=ux (P:=P) (w:=w) (top:=c) (code:=.sliceAcap) (λy hy=>hop y (by subst hy;simp[ho,Op.operands])) hB cB aa
    have hsb:(Instr.sliceBounds true len c (lo.map a.eval) (hi.map a.eval) none).run P w=.ok (k,h,c) w:=by
     unfold Instr.sliceBounds
     cases hi<;>cases lo<;>simp_all
    refine⟨.slice (some ⟨b.1,if c=k then b.2 else b.2+k*sz,none⟩) (h-k) (c-k),?_,b,c,hb,hgc,rfl,aa⟩;simp only[execOp,ho,hv,Z2g,Instr.sliceAt,Instr.slice,Z09,run_underlying hty,Z05,hsb,aI hsz,Z1j,bw,Z0f]
    split<;>rfl
   ·cases hh
  ·cases hh
 ·cases hh
theorem CW {φ:Ph} {M:Hp} {w:World} {i g sz m:Nat} {bl:Bl} {v:Value} (hg:Good φ M w) (hl:lk M i=some bl) (hgh:bl.gh=some (g,sz)) (hro:bl.ro=false) (f0:φ n=none) (f1:φ (n+1)=none)
 (hv:Vr φ (.w i g sz k m) v) (hle:(k+m)*sz<=bl.cells.length) (hcs:cs=(bl.cells.drop (k*sz)).take (m*sz)):
 ∃ φ':Ph,Vr φ' (.s (.sla n (n+1) m)) v/\Good φ' (aA M (fB (some i)++[(n,some {bl with cells:=cs,more:=true,gh:=some (n+1,sz),abs:=none})])) w/\
   Stp φ M w φ' (aA M (fB (some i)++[(n,some {bl with cells:=cs,more:=true,gh:=some (n+1,sz),abs:=none})])) w/\(∀ j,¬(n<=j/\j<n+2)->φ' j=φ j):=by
 obtain⟨b,c,hb,hgc,rfl,hkm⟩:=hv;obtain⟨b2,hb2,pre,ys,rest,fr,p1,hp,p2,p3,p4,p5⟩:=hg.hr i bl hl;rw[hb] at hb2;cases hb2;obtain⟨kk,hkk,hlenk⟩:=p5.1 _ _ hgh;rw[hgc] at hkk;cases hkk;have hyl:=p2.len
 let b':Nat×Nat:=(b.1,if c=k then b.2 else b.2+k*sz)
 let φ':Ph:=⟨λj=>if j=n then some b' else if j=n+1 then some (c-k,0) else φ j,φ.z⟩
 have hle':φ.le φ':=by
  refine⟨λj b hb=>?_,λ_ _ h=>h⟩
  grind
 have hn:φ' n=some b':=ae;have hn1:φ' (n+1)=some (c-k,0):=ae
 have old:∀ j bj,lk (aA M (fB (some i)++[(n,some {bl with cells:=cs,more:=true,gh:=some (n+1,sz),abs:=none})])) j=some bj->n≠j->lk M j=some bj/\i≠j/\φ' j=φ j:=by
  grind [iN,hg.hr]
 have apart:∀ j bj b1,lk M j=some bj->φ j=some b1->i≠j->b1.1≠b.1:=by
  intro j bj b1 hj hb1 hij hbb
  rcases hg.inj j i bj bl b1 b hj hl hb1 hb hbb with rfl|⟨_,e⟩
  all_goals grind
 refine⟨φ',⟨b',c-k,hn,hn1,rfl,aa⟩,⟨λj bj hj=>?_,λj j' bj bj' b1 b2 hj hj' hb1 hb2 hbb=>?_,λx l hx=>?_,hg.gz⟩,⟨rfl,rfl,rfl,Z02 _,λ_ _ _=>rfl,λj bj b1 hj hb1 hlt=>?_,λ_ _ h=>h,λ_ _ h=> .inl h⟩,λj hj=>?_⟩
 rotate_left 2
 ·refine⟨(hg.fz x l hx).1,?_⟩
  rintro⟨j,bj,d,hj,hd,hdx,hroj⟩;by_cases e:n=j
  ·subst e;rw[hn] at hd;cases hd
   exact (hg.fz x l hx).2 ⟨i,bl,b,hl,hb,hdx,hro⟩
  ·obtain⟨hm,_,hφ⟩:=old j bj hj e
   exact (hg.fz x l hx).2 ⟨j,bj,d,hm,ae,hdx,hroj⟩
 rotate_left 2
 ·by_cases e:n=j
  ·subst e
   rw[iN,if_pos rfl] at hj;cases hj;refine⟨b',hn,?_⟩;by_cases hck:c=k
   ·have h0:m=0:=aa
    refine⟨pre,[],ys++rest,fr,p1,?_,?_,(λe=>by cases e),λe=>p4 e,⟨λg z e'=>?_,λ_ e'=>(by cases e')⟩⟩
    ·grind
    ·show All2 _ cs []
     rw[hcs,h0,Z24];simp[All2]
    all_goals grind
   ·have hks:k*sz<=ys.length:=ae
    have hd:m*sz<=(ys.drop (k*sz)).length:=ae;refine⟨pre++ys.take (k*sz),(ys.drop (k*sz)).take (m*sz),(ys.drop (k*sz)).drop (m*sz)++rest,fr,?_,?_,?_,(λe=>by cases e),λe o' ho'=>p4 e o' ?_,⟨λg z' e'=>?_,λ_ e'=>(by cases e')⟩⟩
    ·show w.heap[b.1]? =_
     rw[p1];congr 2;rw[Z14,<-Z14 (List.take _ (List.drop _ ys)),Z2m,<-Z14 (List.take _ ys),Z2m]
    ·grind
    ·show All2 _ cs _
     rw[hcs];exact ((p2.mono λ_ _=>Sr.mono (bl.ph_le hle')).drop _).take _
    all_goals grind [Nat.sub_mul]
  ·obtain⟨hm,hbi,hφ⟩:=old j bj hj e
   obtain⟨b1,hb1,hatj⟩:=hg.hr j bj hm;exact⟨b1,ae,hatj.mono hle' rfl⟩
 ·by_cases e:n=j<;>by_cases e':n=j'
  ·grind
  ·grind
  ·grind
  ·obtain⟨hm,_,hφ⟩:=old j bj hj e
   obtain⟨hm',_,hφ'⟩:=old j' bj' hj' e';exact hg.inj j j' bj bj' b1 b2 hm hm' (by rw[<-hφ];exact hb1) (by rw[<-hφ'];exact hb2) hbb
 all_goals grind
def pd (P:Program) (n:Nat) (L:Hp) (t:TypeId) (x v:V) (cs cells:List S) (as_:List Ans):Option Out:=
 match x,v with
 | .s (.ptr (some (j,o))),.w i g sz k m=>
   match lk L i,lk L j,cE P t with
   |some bl,some bj,some 1=>
    match bl.gh with
    |some (g',z)=>
     match Nat.beq g' g&&Nat.beq z sz&& !bl.ro&& !bj.ro&& !Nat.beq i j&& !Nat.beq n j&&cf bj [.sla n (n+1) m]&&bj.kind.isNone with
     |true=>some ⟨⟨[i,j],.undef,fB (some i)++[(n,some {bl with cells:=cs,more:=true,gh:=some (n+1,sz),abs:=none}),(j,some {bj with cells:=cells})],n+2⟩,as_,
      (k+m)*sz<=bl.cells.length/\cs=(bl.cells.drop (k*sz)).take (m*sz)/\o+1<=bj.cells.length/\cells=bW bj.cells o [.sla n (n+1) m]⟩
     |false=>none
    |none=>none
   |_,_,_=>none
 |_,_=>none
theorem vG:∀ (A B:Hp) (L:Hp),aA L (A++B)=aA (aA L A) B
 |[],B,L=>rfl
 |(i,b)::A,B,L=>by simp only[Z25,aA];exact vG A B _
def La (n:Nat):V->V
 | .w _ _ _ _ m=> .s (.sla n (n+1) m)
 |v=>v
theorem yk (n:Nat) (v:Value):La n (cI v)=cI v:=by
 unfold cI;split<;>rfl
theorem EV (n:Nat) (env:List V) (x:Operand):ev (env.map (La n)) x=La n (ev env x):=by
 cases x with
 |tmp t=>
  simp only[ev,Z00,Z0t]
  cases env[t]? <;>rfl
 |const v=>exact (yk n v).symm
 |_=>rfl
theorem zu {y:Operand} {cells:List S} (ho:o.op=.store t x y)
 (h:pd P n L t (ev env x) (ev env y) cs cells as_=some out) (hC:out.C):OutOK P o env n L out:=by
 unfold pd at h;split at h
 ·rename_i j off i g sz k m hx hy
  split at h
  ·rename_i bl bj hl hlj ht
   split at h
   ·rename_i g' z hgh
    split at h
    ·rename_i hchk
     cases h;simp only[Z07,Z0v] at hchk;obtain⟨⟨⟨⟨⟨⟨⟨e1,e2⟩,hro⟩,hroj⟩,hij⟩,hnj⟩,hfit⟩,hkdj⟩:=hchk;have e1:=Z0q e1;have e2:=Z0q e2;subst e1;subst e2
     have hij:i≠j:=λe=>by rw[e,Z2n] at hij;cases hij
     have hnj:n≠j:=λe=>by rw[e,Z2n] at hnj;cases hnj
     obtain⟨c1,c2,c3,c4⟩:=hC;refine⟨?_,Z1o _ _⟩;intro φ a w Q hop hg hf
     have hM:lk (res [i,j] L) i=some bl:=by rw[bJ,if_pos aq];exact hl
     have hMj:lk (res [i,j] L) j=some bj:=by rw[bJ,if_pos aq];exact hlj
     have gy:=hop y (by simp[ho,Op.operands]);rw[hy] at gy;obtain⟨φ1,hv1,hg1,hs1,hag1⟩:=CW hg hM hgh hro (hf n (Z02 _) ae) (hf (n+1) aa ae) gy c1 c2;have hle1:φ.le φ1:=jH (n:=n) (n':=n+2) hf hag1 hs1.zle
     let M1:Hp:=aA (res [i,j] L) (fB (some i)++[(n,some {bl with cells:=cs,more:=true,gh:=some (n+1,z),abs:=none})])
     have hj1:lk M1 j=some bj:=by
      grind [iN]
     --the store,with the window as_ taken
     have hst:nF P (n+2) M1 t (ev (env.map (La n)) x) (ev (env.map (La n)) y) [match bj.sym with|true=> .cells cells|false=> .stc cells]=some ⟨⟨[j],.undef,[(j,some {bj with cells:=cells})],n+2⟩,[],off+1<=bj.cells.length/\cells=bW bj.cells off [.sla n (n+1) m]⟩:=by
      rw[EV,EV,hx,hy];simp only[La,nF,hj1,ht,cellsOf,Az,Z04,Z0e,Z0c,hroj,hfit,hkdj,Z2n,Bool.and_self,Z2f]
      grind
     have hout:=(sx ho hst ⟨c3,c4⟩).1
     have step:=hout φ1 a w Q (λz hz=>by
      rw[EV];have g:=hop z hz
      cases hev:ev env z with
      |w i' g' sz' k' m'=>
       have hzy:z=y:=by
        rw[ho] at hz;simp[Op.operands] at hz
        rcases hz with rfl|rfl
        ·rw[hx] at hev;cases hev
        ·rfl
       subst hzy;rw[hy] at hev;cases hev;exact hv1
      |_=>rw[hev] at g;exact g.mono hle1) (hg1.sub λi' b' hi'=>by
       rw[bJ] at hi';split at hi'
       ·exact hi'
       ·cases hi') (λi' h1 h2=>absurd h2 (by show ¬i'<n+2;omega))
     refine Z4v ?_ step;rintro a' w' ⟨φ',x',rfl,hv,hg',st,hag⟩
     have hag':∀ i',φ' i'=φ1 i':=λi'=>hag i' ae
     have hl2:φ1.le φ':=⟨λi' b' h'=>by grind,st.zle⟩
     obtain⟨g2,s2⟩:=frame (L:=res [j] M1) (M:=M1) (M':=aA M1 [(j,some {bj with cells:=cells})]) hg1 (λi' b' hi'=>by
      rw[bJ] at hi';split at hi'
      ·exact hi'
      ·cases hi') hg' st hl2 (by
      intro i' bl' hi';by_cases hk:i'∈bP [(j,some {bj with cells:=cells})]
      ·exact .inl (by rw[iM _ _ M1 i' hk];exact hi')
      ·rw[cG _ _ _ hk] at hi' |-
       by_cases hm:i'∈[j]
       ·exact .inl (by rw[bJ,if_pos hm];exact hi')
       ·exact .inr ⟨by rw[bJ,if_neg hm],hi'⟩)
     have eM:aA (res [i,j] L) (fB (some i)++[(n,some {bl with cells:=cs,more:=true,gh:=some (n+1,z),abs:=none}),(j,some {bj with cells:=cells})])=aA M1 [(j,some {bj with cells:=cells})]:=by
      show _=aA (aA _ _) _;rw[<-vG];rfl
     grind [hs1.trans]
    ·cases h
   ·cases h
  ·cases h
 ·cases h
def Gh (P:Program) (ts:Array TypeId) (n:Nat) (L:Hp) (d x:V) (as_:List Ans):Option Out:=
 match ts[0]?,ts[1]? with
 |some t,some tx=>
  match P.underlying t,P.underlying tx with
  |some (.slice e),some dx=>
   match iL dx,cE P e,d with
   |true,some sz,.s (.slc none _ _)=>
    match gc L sz 0 x with
    |some (foot,m,_,D)=>some ⟨⟨foot,.s (.slc none 0 (some 0)),[],n⟩,as_,D/\m=0⟩
    |none=>none
   |_,_,_=>none
  |_,_=>none
 |_,_=>none
theorem Gg {c:Call} {d:Operand} (ho:o.op=.call c) (hc:c.callee=.builtin .append) (hargs:c.args.toList=[d,x])
 (h:Gh P c.argTypes n L (ev env d) (iF (ev env x)) as_=some out) (hC:out.C):OutOK P o env n L out:=by
 unfold Gh at h;split at h
 ·rename_i t tx h0 h1
  split at h
  ·rename_i e dx ht hx
   split at h
   ·rename_i sz q1 q2 hdx hsz hd
    split at h
    ·rename_i foot m xs D hs
     cases h;obtain⟨hD,rfl⟩:=hC;refine⟨OpL.light λφ a w hop hg=>?_,Z02 _⟩
     have opd:d∈o.op.operands:=by rw[ho];simp only[Op.operands,Call.operands,hc];simp[<-Z3n,hargs]
     have opx:x∈o.op.operands:=by rw[ho];simp only[Op.operands,Call.operands,hc];simp[<-Z3n,hargs]
     have g1:=hop d opd;rw[hd] at g1;obtain⟨_,_,hv⟩:=g1;obtain⟨r1,vs,r2,r3,r4⟩:=vc (P:=P) hs hD (Z02 _) hg (λj hj=>by rw[bJ,if_pos (by simpa using hj)]) (uQ (hop x opx))
     have ea:c.args.map a.eval= #[a.eval d,a.eval x]:=by apply Z3v;simp[hargs]
     refine⟨.slice none 0 0,?_,rfl,rfl,rfl⟩;simp only[execOp,ho,resolve,hc,Z09,Z0f,Z05,invoke,builtin,ea,hv];unfold Builtin.append_;simp only[h0,h1,Z1a,Z11,Z23,Z09,Ab.run_underlying ht,Ab.run_underlying hx,Z05,aI hsz,Z0f]
     cases dx<;>first|cases hdx|skip
     all_goals simp only[Z0l,if_false,Z2f,if_true,r1,r2,Z09,Z05,Z0f,Z0p,Z02]
    ·cases h
   ·cases h
  ·cases h
 ·cases h
end
