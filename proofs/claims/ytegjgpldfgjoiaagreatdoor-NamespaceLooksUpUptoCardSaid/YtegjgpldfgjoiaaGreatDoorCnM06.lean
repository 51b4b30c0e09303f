import Derived.Test.YtegjgpldfgjoiaaGreatDoorCnM05
set_option linter.all false
namespace Go.Proofs.YtegjgpldfgjoiaaGreatDoor
namespace Ab
open Go
section
variable {n:Nat} {P:Program} {o:Oper} {L M:Hp} {φ:Ph} {v:Value} {bi:Option Nat} {w:World}
theorem ko {α:Type}:∀ (xs p arr:List α),xs.length<=arr.length->bR (p++arr) p.length xs=p++(xs++arr.drop xs.length)
 |[],p,arr,_=>by simp[bR]
 |x::xs,p,a::arr,h=>by
  simp only[bR];have e:(p++a::arr).set p.length x=(p++[x])++arr:=an;rw[e,show p.length+1=(p++[x]).length by simp,ko xs (p++[x]) arr (by simpa using h)];simp
 |x::xs,p,[],h=>by simp at h
def wkS:S->S
 | .sla i _ n=> .slc (some (i,0)) n none
 |x=>x
def gT:V->V
 | .s x=> .s (wkS x)
 |v=>v
theorem IX {x:S} (h:Sr φ x v):Sr φ (wkS x) v:=by
 cases x with
 |sla i g n=>obtain⟨b,k,hb,_,hv,hn⟩:=h;exact⟨b,k,hb,by rw[Z0c];exact hv,hn,.inl rfl⟩
 |_=>exact h
theorem sX {x:V} (h:Vr φ x v):Vr φ (gT x) v:=by
 cases x with
 |s x=>exact IX h
 |_=>exact h
theorem v7 (v:Value):gT (cv v)=cv v:=by
 unfold cv;split<;>rfl
theorem mw (env:List V) (x:Operand):ev (env.map gT) x=gT (ev env x):=by
 cases x with
 |tmp t=>
  simp only[ev,Z00,Z0t]
  cases env[t]? <;>rfl
 |const v=>exact (v7 v).symm
 |_=>rfl
theorem OpL.env {env env':List V} {v:V} {n':Nat} {L':Hp} (h:OpL P o env' n L v n' L') (he:∀ x∈o.op.operands,∀ φ y,Vr φ (ev env x) y->Vr φ (ev env' x) y):OpL P o env n L v n' L':=
 λφ a w Q hx hg hf=>h φ a w Q (λx hm=>he x hm φ _ (hx x hm)) hg hf
theorem OutOK.wk {env:List V} {out:Out} (h:OutOK P o (env.map gT) n L out):OutOK P o env n L out:=
 ⟨h.1.env λx _ φ y hy=>by rw[mw];exact sX hy,h.2⟩
def gY:TypeDesc->Bool
 | .int _=>false
 |_=>true
def HB:S->Bool
 | .bool _=>true
 | .int _ _=>true
 | .str _=>true
 |_=>false
def eY (P:Program) (L:Hp) (e:TypeId) (sz:Nat) (fl:Bool):V->Option (Option Nat×Nat×Bl×Prop)
 | .s (.slc none _ _)=>match dz P e with|some zs=>some (none,0,{cells:=[],ty:=e,flat:=fl&&zs.all HB},True)|none=>none
 | .s (.sla i g len)=>
   match lk L i with
   |some bl=>
    match bl.gh with
    |some (g',z)=>match Nat.beq g' g&&Nat.beq z sz&& !bl.ro&&Nat.beq bl.ty e&&bl.kind.isNone&&bl.abs.isNone with|true=>some (some i,len,bl,len*sz<=bl.cells.length)|false=>none
    |none=>none
   |none=>none
 | .s (.slc (some (i,0)) len (some cap))=>
   match lk L i with
   |some bl=>match !bl.ro&& !bl.more&&Nat.beq bl.ty e&&bl.kind.isNone&&bl.abs.isNone with|true=>some (some i,len,bl,bl.cells.length=cap*sz)|false=>none
   |none=>none
 |_=>none
def lenV:V->Option Nat
 | .s (.str l)=>some l.length
 | .s (.slc _ m _)=>some m
 | .s .emp=>some 0
 | .s .emq=>some 0
 | .s (.frz _ _ m)=>some m
 |_=>none
def eR:Option Nat->Hp
 |some i=>[(i,none)]
 |none=>[]
def AR (l:List S) (k:Nat):List S:=match Nat.beq l.length k with|true=>l|false=>l.take k
theorem AQ (l:List S) (k:Nat):AR l k=l.take k:=by
 unfold AR;split
 ·rename_i h;have:=Z0q h;rw[<-this,Z1v]
 ·rfl
def nA (P:Program) (ts:Array TypeId) (n:Nat) (L:Hp) (fl:Bool) (d x:V) (ans:List Ans):Option Out:=
 match ts[0]?,ts[1]? with
 |some t,some tx=>
  match P.underlying t,P.underlying tx with
  |some (.slice e),some dx=>
   match gY dx,P.info? e,dz P e with
   |true,some inf,some zs=>
    match Nat.beq inf.size zs.length,eY P L e inf.size fl d with
    |true,some (bi,len,bl,C)=>
     match lenV x with
     |some m0=>
      match fE L inf.size m0 x with
      |some (foot,m,xs,D)=>
       match ans with
       | .app r cs::as_=>
         some ⟨⟨bi.toList++foot,.s (.sla n (n+1) r),eR bi++[(n,some {bl with cells:=cs,more:=true,sym:=true,gh:=some (n+1,inf.size)})],n+2⟩,as_,
          C/\D/\m0=m/\r=len+m/\cs=bl.cells.take (len*inf.size)++xs/\bC bl xs=true/\(bi=none->1<=m)/\r*inf.bytes<=140737488355328/\r<=140737488355328⟩
       |as_=>
        li (AR bl.cells (len*inf.size)++xs) [] λcs=>
        some ⟨⟨bi.toList++foot,.s (.sla n (n+1) (len+m)),eR bi++[(n,some {bl with cells:=cs,more:=true,gh:=some (n+1,inf.size)})],n+2⟩,as_,
         C/\D/\m0=m/\bC bl xs=true/\(bi=none->1<=m)/\(len+m)*inf.bytes<=140737488355328/\len+m<=140737488355328⟩
      |none=>none
     |none=>none
    |_,_=>none
   |_,_,_=>none
  |_,_=>none
 |_,_=>none
theorem g9 {bl:Bl} {j:Nat}:lk (aw M (eR bi++[(n,some bl)])) j=if n=j then some bl else if bi=some j then none else lk M j:=by
 cases bi with
 |none=>simp only[eR,Z1e,aw,az];split<;>simp
 |some i=>
  simp only[eR,Z25,Z1e,aw,az];split
  ·rfl
  ·simp only[Z06]
theorem OpL.moved {env:List V} {bl':Bl} {r:Nat}
 (h:∀ φ (a:Act) (w:World),(∀ x∈o.op.operands,Vr φ (ev env x) (a.eval x))->Good φ M w->∃ (b':Nat×Nat) (k:Nat) (w':World),(execOp a.eval o).run P w=.ok (.value (.slice (some ⟨b'.1,b'.2,none⟩) r k)) w'/\w'.os=w.os/\w'.tape=w.tape/\w'.output=w.output/\r<=k/\
   w.heap.size<=w'.heap.size/\(∀ c,c<w.heap.size->c≠b'.1->w'.heap[c]? =w.heap[c]?)/\(b'.1<w.heap.size->∃ i blo c,bi=some i/\lk M i=some blo/\φ i=some c/\c.1=b'.1/\blo.ro=false)/\
   (∀ φ':Ph,φ.le φ'->φ' (n+1)=some (k,0)->BlAt φ' w' b' bl')) (hro:bl'.ro=false):
 OpL P o env n M (.s (.sla n (n+1) r)) (n+2) (aw M (eR bi++[(n,some bl')])):=by
 intro φ a w Q hx hg hf;obtain⟨b',k,w',hr,h1,h2,h3,hrk,hsz,hkeep,hold,hat⟩:=h φ a w hx hg;have f0:=hf n (Z02 _) aa;have f1:=hf (n+1) aa aa
 let φ':Ph:=⟨λj=>if j=n then some b' else if j=n+1 then some (k,0) else φ j,φ.z⟩
 have hle:φ.le φ':=by
  refine⟨λj b hb=>?_,λ_ _ h=>h⟩;simp only[φ'];split
  ·rename_i e;subst e;rw[f0] at hb;cases hb
  ·split
   ·rename_i e;subst e;rw[f1] at hb;cases hb
   ·exact hb
 have hn:φ' n=some b':=by simp[φ']
 have hn1:φ' (n+1)=some (k,0):=by simp[φ']
 --another block that is known lies elsewhere
 have apart:∀ j bj b,lk M j=some bj->φ j=some b->bi≠some j->b.1≠b'.1:=by
  intro j bj b hj hb hbi hbb;obtain⟨b2,hb2,hatj⟩:=hg.hr j bj hj;rw[hb] at hb2;cases hb2;obtain⟨i,blo,c,rfl,hi,hpi,hcc,hroi⟩:=hold (hbb▸hatj.lt)
  rcases hg.inj j i bj blo b c hj hi hb hpi (hbb.trans hcc.symm) with rfl|⟨_,e⟩
  ·exact hbi rfl
  ·rw[e] at hroi;cases hroi
 have old:∀ j bj,lk (aw M (eR bi++[(n,some bl')])) j=some bj->n≠j->lk M j=some bj/\bi≠some j/\φ' j=φ j:=by
  intro j bj hj hne;rw[g9,if_neg hne] at hj;split at hj
  ·cases hj
  ·rename_i hb
   refine⟨hj,hb,?_⟩;obtain⟨b,hb,_⟩:=hg.hr j bj hj;simp only[φ'];rw[if_neg (Z48 hne),if_neg];rintro rfl;rw[f1] at hb;cases hb
 unfold Oper.wp;rw[hr,Z3q];refine⟨φ',_,rfl,⟨b',k,hn,hn1,rfl,hrk⟩,⟨λj bj hj=>?_,λj j' bj bj' b b₂ hj hj' hb hb' hbb=>?_,λb l hb=>?_,hg.gz⟩,⟨h1,h2,h3,hsz,λc hc hnw=>?_,λj bj b hj hb hlt=>?_,λ_ _ h=>h,λ_ _ h=> .inl h⟩,λi hi=>?_⟩
 rotate_left 2
 ·have hlt:=hg.fzlt hb
  have hne:b≠b'.1:=by
   intro e;obtain⟨i,blo,c,_,hi,hpi,hcc,hroi⟩:=hold (e▸hlt);exact (hg.fz b l hb).2 ⟨i,blo,c,hi,hpi,hcc.trans e.symm,hroi⟩
  refine⟨by rw[hkeep b hlt hne];exact (hg.fz b l hb).1,?_⟩;rintro⟨j,bj,c,hj,hc,hcb,hroj⟩;by_cases e:n=j
  ·subst e;rw[hn] at hc;cases hc;exact hne hcb.symm
  ·obtain⟨hm,_,hφ⟩:=old j bj hj e
   exact (hg.fz b l hb).2 ⟨j,bj,c,hm,by rw[<-hφ];exact hc,hcb,hroj⟩
 rotate_left 3
 ·by_cases e:n=j
  ·subst e
   rw[g9,if_pos rfl] at hj;cases hj;exact⟨b',hn,hat φ' hle hn1⟩
  ·obtain⟨hm,hbi,hφ⟩:=old j bj hj e
   obtain⟨b,hb,hatj⟩:=hg.hr j bj hm;exact⟨b,by rw[hφ];exact hb,hatj.mono hle (hkeep b.1 hatj.lt (apart j bj b hm hb hbi))⟩
 ·by_cases e:n=j<;>by_cases e':n=j'
  ·exact .inl (e▸e')
  ·subst e
   obtain⟨hm,hbi,hφ⟩:=old j' bj' hj' e';rw[hn] at hb;cases hb;exact absurd hbb.symm (apart j' bj' b₂ hm (by rw[<-hφ];exact hb') hbi)
  ·subst e'
   obtain⟨hm,hbi,hφ⟩:=old j bj hj e;rw[hn] at hb';cases hb';exact absurd hbb (apart j bj b hm (by rw[<-hφ];exact hb) hbi)
  ·obtain⟨hm,_,hφ⟩:=old j bj hj e
   obtain⟨hm',_,hφ'⟩:=old j' bj' hj' e';exact hg.inj j j' bj bj' b b₂ hm hm' (by rw[<-hφ];exact hb) (by rw[<-hφ'];exact hb') hbb
 ·refine hkeep c hc ?_
  rintro rfl;obtain⟨i,blo,c,_,hi,hpi,hcc,hroi⟩:=hold hc;exact hnw ⟨i,blo,c,hi,hpi,hcc,hroi⟩
 ·by_cases e:n=j
  ·subst e
   rw[hn] at hb;cases hb;obtain⟨i,blo,c,_,hi,hpi,hcc,hroi⟩:=hold hlt;exact⟨i,blo,c,hi,hpi,hcc,(λe=>by rw[hroi] at e;cases e),.inr hroi⟩
  ·obtain⟨hm,_,hφ⟩:=old j bj hj e
   exact⟨j,bj,b,hm,by rw[<-hφ];exact hb,rfl,id,.inl rfl⟩
 ·simp only[φ']
  rw[if_neg aa,if_neg aa]
theorem fy (z:Array Value) (k:Nat):(Builtin.zeroCells z k).size=k*z.size:=by simp[Builtin.zeroCells]
section
variable {P:Program} {ts:Array TypeId} {ty t tx e:TypeId} {inf:TypeInfo} {dx:TypeDesc}
theorem sF (h0:ts[0]? =some t) (h1:ts[1]? =some tx) (ht:P.underlying t=some (.slice e)) (hx:P.underlying tx=some dx) (hdx:gY dx=true) (hi:P.info? e=some inf) {zv:Value} (hz:inf.zero=some zv) {base:Option Addr} {len cap:Nat} {x:Value} {old new:Array Value}
 (hlen:∀ w,(Builtin.lenOf x).run P w=.ok n w) (hold:∀ d,(Builtin.firstCells inf.size len (.slice base len cap)).run P {w with drawn:=d}=.ok old {w with drawn:=d}) (hnew:∀ d,(Builtin.firstCells inf.size n x).run P {w with drawn:=d}=.ok new {w with drawn:=d})
 (hgrow:cap<len+n) (hbig:(len+n)*inf.bytes<=140737488355328) (hmax:len+n<=140737488355328):
 ∃ c,len+n<=c/\∃ rest:Array Value,rest.size=(c-(len+n))*zv.cells.size/\(Builtin.append_ ts ty #[.slice base len cap,x]).run P w=.ok (.slice (some ⟨w.heap.size,0,none⟩) (len+n) c) {w with drawn:=w.drawn+1,heap:=w.heap.push (.cells (old++new++rest) e)}:=by
 have hsz:(sizeOf e).run P w=.ok inf.size w:=by simp[sizeOf,typeInfo,hi]
 have hti:∀ w,(typeInfo e).run P w=.ok inf w:=λw=>by simp[typeInfo,hi]
 have hzv:∀ w,(zeroValue e).run P w=.ok zv w:=λw=>by simp[zeroValue,typeInfo,hi,hz]
 have c1: ¬(len+n<=cap):=aa
 have c2: ¬(((len+n:Nat):Int)>IntKind.i64.max/\(False\/inf.bytes=0)):=by
  have:IntKind.i64.max=9223372036854775807:=ac;rw[this];omega
 have c3: ¬(Builtin.nextslicecap (len+n) cap*inf.bytes>2^48):=by
  have:=growslice_fits (bytes:=inf.bytes) hgrow hbig;have e48:(2:Nat)^48=281474976710656:=ac;omega
 refine⟨(Question.appendCap (len+n) cap e).cut (w.tape w.drawn (.appendCap (len+n) cap e)),by simp only[Question.cut];omega,Builtin.zeroCells zv.cells ((Question.appendCap (len+n) cap e).cut (w.tape w.drawn (.appendCap (len+n) cap e))-(len+n)),fy _ _,?_⟩;unfold Builtin.append_;simp only[h0,h1,Z1a,Z11,Z23,Z09,Ab.run_underlying ht,Ab.run_underlying hx,Z05,hsz,Z0f]
 cases dx<;>first|cases hdx|skip
 all_goals
  simp only[Z0l,if_false,Z2f,if_true,hlen,Z09,Z05,Z0f,if_neg c1,hti,if_neg c2,if_neg c3,run_choose,Question.forced,run_askRoom,hold,hnew,hzv,newRow,run_newObj]
end
theorem ze {size k:Nat} {x:V} {foot:List Nat} {m:Nat} {xs:List S} {C:Prop} (h:fE L size k x=some (foot,m,xs,C)) (hC:C) (hk:k<=m) (hg:Good φ M w) (hf:∀ i∈foot,lk M i=lk L i) (hv:Vr φ x v):
 (∀ w',(Builtin.lenOf v).run P w'=.ok m w')/\∃ vs:List Value,(∀ d,(Builtin.firstCells size k v).run P {w with drawn:=d}=.ok vs.toArray {w with drawn:=d})/\All2 (Sr φ) xs vs/\xs.length=k*size:=by
 unfold fE at h;split at h
 ·rename_i l
  simp only[Vr,Sr] at hv;subst hv;split at h
  ·simp only[Z06,Z0j] at h
   obtain⟨rfl,rfl,rfl,rfl⟩:=h;refine⟨λ_=>rfl,(l.take k).map λ(b:UInt8)=>Value.int .u8 (b.toNat:Int),λd=>?_,ng _,by simp[jF];omega⟩;simp only[Builtin.firstCells,Z0f];congr 1;apply Z3v;simp[Z5p]
  ·cases h
 ·simp only[Z06,Z0j] at h
  obtain⟨rfl,rfl,rfl,rfl⟩:=h;obtain⟨_,_,rfl⟩:=hv;exact⟨λ_=>rfl,[],λ_=>rfl,trivial,by simp[hC]⟩
 ·simp only[Z06,Z0j] at h
  obtain⟨rfl,rfl,rfl,rfl⟩:=h;obtain⟨a,rfl⟩:=hv;subst hC;exact⟨λ_=>rfl,[],λ_=>by simp[Builtin.firstCells,loadCells,loadCellsFrom],trivial,an⟩
 ·simp only[Z06,Z0j] at h
  obtain⟨rfl,rfl,rfl,rfl⟩:=h;obtain⟨a,kk,rfl⟩:=hv;subst hC;exact⟨λ_=>rfl,[],λ_=>by simp[Builtin.firstCells,loadCells,loadCellsFrom],trivial,an⟩
 ·rename_i j p mm c
  split at h
  ·rename_i bl hl
   simp only[Z06,Z0j] at h;obtain⟨rfl,rfl,rfl,rfl⟩:=h;obtain⟨b,kc,hb,rfl,_⟩:=hv;obtain⟨b',hb',hat⟩:=hg.hr j bl (by rw[hf j an];exact hl);rw[hb] at hb';cases hb';refine⟨λ_=>rfl,?_⟩;obtain⟨hC,hkd⟩:=hC;obtain⟨pre,ys,rest,fr,h1,hp,h2,h3,h4⟩:=hat;rw[hkd] at h1;simp only[c_] at h1;have hlen:=h2.len;have hv2:All2 (Sr φ) ((bl.cells.drop p).take (k*size)) ((ys.drop p).take (k*size)):=((h2.mono λ_ _=>Sr.mono (bl.ph_le_self φ)).drop p).take _
   have hl2:((ys.drop p).take (k*size)).length=k*size:=by simp;omega
   refine⟨(ys.drop p).take (k*size),λd=>?_,hv2,by rw[<-hv2.len,hl2]⟩
   have hld:=bg (P:=P) (w:={w with drawn:=d}) (b:=b.1) (o:=p+b.2) ((ys.drop p).take (k*size)) 0 #[] (by
    intro i v hi
    have hi':i<k*size:=by
     rcases Z0a i ((ys.drop p).take (k*size)).length with h|h
     ·omega
     ·simp[Z0b h] at hi
    simp only[Z2w,Z2k,if_pos hi'] at hi;simp only[World.cell?,h1];have:p+i<ys.length:=aa;simp only[Z2b,Z0l,if_false,Z1a,Z0c]
    rw[show p+b.2+i=(p+i)+b.2 by omega,f_ pre _ hp,Z0x this];exact hi)
   rw[hl2] at hld
   simpa [Builtin.firstCells,loadCells] using hld
  ·cases h
 ·rename_i get sz mm
  split at h
  ·rename_i hb
   have hb:=Z0q hb;subst hb;simp only[Z06,Z0j] at h;obtain⟨rfl,rfl,rfl,rfl⟩:=h;have hv:Pr φ.z (.frz get sz mm) v:=hv
   cases hv with
   |nil get' sz' a c=>
    obtain rfl:k=0:=aa;exact⟨λ_=>rfl,[],λ_=>by cases a<;>simp[Builtin.firstCells,loadCells,loadCellsFrom],trivial,by simp[eP]⟩
   |frz get' sz' n' b o c vs h1 hn val hl hvv hx=>
    obtain⟨ys,q1,q2,q3⟩:=qm (φ:=φ) hl hvv hx k hk;refine⟨λ_=>rfl,ys,λd=>?_,q2,by rw[<-q2.len,q1]⟩;obtain⟨⟨ty,fr,hb⟩,_⟩:=hg.fz b vs h1
    have hld:=bg (P:=P) (w:={w with drawn:=d}) (b:=b) (o:=o) ys 0 #[] (by
     intro i v hi;simp only[World.cell?,hb,Z2b,Z0l,if_false,Z1a,Z0c]
     exact q3 i v hi)
    rw[q1] at hld
    simpa [Builtin.firstCells,loadCells] using hld
  ·cases h
 ·cases h
theorem dL {env:List V} {c:Call} {d x:Operand} {t tx e:TypeId} {dx:TypeDesc} {inf:TypeInfo} {zs:List S} {len:Nat} {bl:Bl} {C:Prop} {foot:List Nat} {m:Nat} {xs:List S} {D:Prop} {cs:List S} {sy:Bool} {r:Nat}
 (ho:o.op=.call c) (hc:c.callee=.builtin .append) (hargs:c.args.toList=[d,x]) (ht0:c.argTypes[0]? =some t) (ht1:c.argTypes[1]? =some tx) (ht:P.underlying t=some (.slice e)) (hx:P.underlying tx=some dx) (hdx:gY dx=true)
 (hi:P.info? e=some inf) (hz:dz P e=some zs) (hsz:inf.size=zs.length) {fl:Bool} (hb:eY P L e inf.size fl (ev env d)=some (bi,len,bl,C)) {m0:Nat} (hs:fE L inf.size m0 (gT (ev env x))=some (foot,m,xs,D))
 (hC:C) (hD:D) (hm:m0=m) (hr:r=len+m) (hcs:cs=bl.cells.take (len*inf.size)++xs) (hfit:bC bl xs=true) (hnil:bi=none->1<=m) (hbig:r*inf.bytes<=140737488355328) (hmax:r<=140737488355328):
 OpL P o env n (res (bi.toList++foot) L) (.s (.sla n (n+1) r)) (n+2) (aw (res (bi.toList++foot) L) (eR bi++[(n,some {bl with cells:=cs,more:=true,sym:=sy,gh:=some (n+1,inf.size)})])):=by
 subst hr
 have hrk:bl.ro=false/\bl.kind=none/\bl.abs=none:=by
  unfold eY at hb;split at hb
  ·split at hb
   ·cases hb;exact⟨rfl,rfl,rfl⟩
   ·cases hb
  ·split at hb
   ·split at hb
    ·split at hb
     ·rename_i hk
      simp only[Z07,Z0v,Option.isNone_iff_eq_none] at hk;cases hb;exact⟨hk.1.1.1.2,hk.1.2,hk.2⟩
     ·cases hb
    ·cases hb
   ·cases hb
  ·split at hb
   ·split at hb
    ·rename_i hk
     simp only[Z07,Z0v,Option.isNone_iff_eq_none] at hk;cases hb;exact⟨hk.1.1.1.1,hk.1.2,hk.2⟩
    ·cases hb
   ·cases hb
  ·cases hb
 obtain⟨hro,hkd,habs⟩:=hrk;refine OpL.moved ?_ hro;intro φ a w hop hg
 have opd:d∈o.op.operands:=by rw[ho];simp only[Op.operands,Call.operands,hc];simp[<-Z3n,hargs]
 have opx:x∈o.op.operands:=by rw[ho];simp only[Op.operands,Call.operands,hc];simp[<-Z3n,hargs]
 have g1:=hop d opd;have g2:=sX (hop x opx);obtain⟨hlen,vs,hvs,hall,hxl⟩:=ze (P:=P) hs hD (by rw[hm];exact Z02 _) hg (λj hj=>by rw[bq,if_pos (by simp[hj])]) g2;rw[hm] at hvs hxl;have hvl:=hall.len
 have ea:c.args.map a.eval= #[a.eval d,a.eval x]:=by apply Z3v;simp[hargs]
 have hexec:∀ y w',(Builtin.append_ c.argTypes o.type #[a.eval d,a.eval x]).run P w=.ok y w'->(execOp a.eval o).run P w=.ok (.value y) w':=by
  intro y w' h;simp only[execOp,ho,resolve,hc,Z09,Z0f,Z05,invoke,builtin,ea,h]
 obtain⟨zv,hzv⟩:∃ zv,inf.zero=some zv:=by
  unfold dz at hz;rw[hi] at hz
  cases hq:inf.zero with
  |none=>simp[hq] at hz
  |some zv=>exact⟨zv,rfl⟩
 have hzs:zv.cells.size=inf.size:=by
  obtain⟨z,hr,ha⟩:=fx hz w
  have:z=zv:=by simp[zeroValue,typeInfo,hi,hzv] at hr;exact hr.symm
  subst this;rw[<-Z28,(ha ⟨λ_=>none,λ_=>none⟩).len,hsz]
 --the cells that are there,and that the new ones fit the block
 have fits:∀ (φ':Ph),φ.le φ'->All2 (Sr (bl.ph φ')) xs vs:=by
  intro φ' hle;unfold bC at hfit;unfold Bl.ph
  cases hf:bl.flat with
  |false=>simpa [hf] using hall.mono λ_ _=>Sr.mono hle
  |true=>rw[hf] at hfit;exact gF (φ:=φ) (ψ:=⟨λ_=>none,φ'.z⟩) hle.z hfit hall
 have grown:∀ (base:Option Addr) (cap:Nat) (old:List Value),a.eval d=.slice base len cap->cap<len+m->(∀ k,(Builtin.firstCells inf.size len (.slice base len cap)).run P {w with drawn:=k}=.ok old.toArray {w with drawn:=k})->
  old.length=len*inf.size->bl.ty=e->(∀ φ':Ph,φ.le φ'->All2 (Sr (bl.ph φ')) (bl.cells.take (len*inf.size)) old)->
  ∃ (b':Nat×Nat) (k:Nat) (w':World),(execOp a.eval o).run P w=.ok (.value (.slice (some ⟨b'.1,b'.2,none⟩) (len+m) k)) w'/\w'.os=w.os/\w'.tape=w.tape/\w'.output=w.output/\len+m<=k/\
  w.heap.size<=w'.heap.size/\(∀ c,c<w.heap.size->c≠b'.1->w'.heap[c]? =w.heap[c]?)/\(b'.1<w.heap.size->∃ i blo c,bi=some i/\lk (res (bi.toList++foot) L) i=some blo/\φ i=some c/\c.1=b'.1/\blo.ro=false)/\
  (∀ φ':Ph,φ.le φ'->φ' (n+1)=some (k,0)->BlAt φ' w' b' {bl with cells:=cs,more:=true,sym:=sy,gh:=some (n+1,inf.size)}):=by
  intro base cap old hd hgrow hold holen hty hoall;obtain⟨k,hk,rest,hrs,hrun⟩:=sF (ty:=o.type) ht0 ht1 ht hx hdx hi hzv (w:=w) (x:=a.eval x) (base:=base) (cap:=cap) hlen hold hvs hgrow hbig hmax;refine⟨(w.heap.size,0),k,{w with drawn:=w.drawn+1,heap:=w.heap.push (.cells (old.toArray++vs.toArray++rest) e)},hexec _ _ (by rw[hd];exact hrun),rfl,rfl,rfl,hk,an,λc hc _=>?_,λh=>absurd h (Z40 _),λφ' hle hk'=>?_⟩
  ·show (w.heap.push _)[c]? =_
   rw[Z5q hc];simp[hc]
  ·refine⟨[],old++vs,rest.toList,(0,0),?_,rfl,?_,(λe=>by cases e),(λ_ o' ho'=>by simp),⟨λg z e'=>?_,λg e'=>(by rw[show bl.abs=none from habs] at e';cases e')⟩⟩
   ·show (w.heap.push _)[w.heap.size]? =_
    simp[hty,hkd,c_]
   ·rw[hcs];exact (hoall φ' hle).append (fits φ' hle)
   ·simp only[Z06,Z0j] at e'
    obtain⟨rfl,rfl⟩:=e';refine⟨k,hk',?_⟩;rw[hzs] at hrs;simp only[Z03,Z28,hrs,holen,hvl,hxl];rw[<-Z2q,<-Z2q];exact Z1w _ aa
 have fitted:∀ (i:Nat) (b:Nat×Nat) (cap:Nat) (pre arr:List Value) (fr:Nat×Nat),pre.length=b.2->bi=some i->lk (res (bi.toList++foot) L) i=some bl->φ i=some b->a.eval d=.slice (some ⟨b.1,b.2,none⟩) len cap->w.heap[b.1]? =some (.cells (pre++arr).toArray bl.ty fr)->(∀ x,x<(pre++arr).length->(fr.1<=x&&x<fr.2)=false)->
  cap*inf.size<=arr.length->len*inf.size<=bl.cells.length->bl.ty=e->(∀ φ':Ph,φ.le φ'->All2 (Sr (bl.ph φ')) (bl.cells.take (len*inf.size)) (arr.take (len*inf.size)))->len<=cap->
  ∃ (b':Nat×Nat) (k:Nat) (w':World),(execOp a.eval o).run P w=.ok (.value (.slice (some ⟨b'.1,b'.2,none⟩) (len+m) k)) w'/\w'.os=w.os/\w'.tape=w.tape/\w'.output=w.output/\len+m<=k/\
  w.heap.size<=w'.heap.size/\(∀ c,c<w.heap.size->c≠b'.1->w'.heap[c]? =w.heap[c]?)/\(b'.1<w.heap.size->∃ i blo c,bi=some i/\lk (res (bi.toList++foot) L) i=some blo/\φ i=some c/\c.1=b'.1/\blo.ro=false)/\
  (∀ φ':Ph,φ.le φ'->φ' (n+1)=some (k,0)->BlAt φ' w' b' {bl with cells:=cs,more:=true,sym:=sy,gh:=some (n+1,inf.size)}):=by
  intro i b cap pre arr fr hp hbi hli hpi hd hblk hfr hal hcl hty hoall hlc
  have hlen2:(arr.take (len*inf.size)).length=len*inf.size:=by
   rw[Z19];exact Z45 (Z1z (Z1w _ hlc) hal)
  by_cases hfits:len+m<=cap
  ·have hroom:len*inf.size+m*inf.size<=arr.length:=by rw[<-Z2q];exact Z1z (Z1w _ hfits) hal
   have hcellv:∀ v∈vs,fL v=true:=λz hz=>by
    obtain⟨j,hj,hz⟩:=List.getElem_of_mem hz;obtain⟨s,hsm,hs⟩:=hall.get' (i:=j) (b:=z) (by rw[<-hz];simp[hj]);exact hs.cell (lS hfit hsm)
   obtain⟨w',hr,q1,q2,q3,q4,q5,q6⟩:=dS (P:=P) (b:=b.1) (o:=b.2+len*inf.size) vs 0 w (pre++arr) hblk hcellv (by rw[Z03];omega) hfr
   have hst:(storeCells (Addr.add ⟨b.1,b.2,none⟩ (len*inf.size)) vs.toArray.toList).run P w=.ok () w':=by
    rw[bv];simpa using hr
   have hrun:=w9 (ty:=o.type) ht0 ht1 ht hx (λk hk=>by subst hk;cases hdx) hi (a:=⟨b.1,b.2,none⟩) (len:=len) (cap:=cap) (hlen w) (hvs w.drawn) hfits hst;refine⟨b,cap,w',hexec _ _ (by rw[hd];exact hrun),q1,q2,q3,hfits,aa,λc _ hne=>q6 c hne,λ_=>⟨i,bl,b,hbi,hli,hpi,rfl,hro⟩,λφ' hle hk'=>?_⟩
   have harr:bR (pre++arr) (b.2+len*inf.size+0) vs=pre++(arr.take (len*inf.size)++(vs++(arr.drop (len*inf.size)).drop vs.length)):=by
    rw[Z0p,Z4k,kj _ _ _ _ _ hp];have:=ko vs (arr.take (len*inf.size)) (arr.drop (len*inf.size)) (by rw[Z1u];omega);rw[Z2m,hlen2] at this;rw[this]
   refine⟨pre,arr.take (len*inf.size)++vs,(arr.drop (len*inf.size)).drop vs.length,fr,?_,hp,?_,(λe=>by cases e),(λ_ o' ho'=>?_),⟨λg z e'=>?_,λg e'=>(by rw[show bl.abs=none from habs] at e';cases e')⟩⟩
   ·rw[q5,harr,Z14,show ({bl with cells:=cs,more:=true,sym:=sy,gh:=some (n+1,inf.size)}:Bl).kind=none from hkd];rfl
   ·rw[hcs];exact (hoall φ' hle).append (fits φ' hle)
   ·refine hfr o' ?_
    simp only[Z03,Z1u,hlen2] at ho' |-;omega
   ·simp only[Z06,Z0j] at e'
    obtain⟨rfl,rfl⟩:=e';refine⟨cap,hk',?_⟩;simp only[Z03,Z1u,hlen2];omega
  ·refine grown (some ⟨b.1,b.2,none⟩) cap (arr.take (len*inf.size)) hd aa (λk=>?_) hlen2 hty hoall
   have hld:=bg (P:=P) (w:={w with drawn:=k}) (b:=b.1) (o:=b.2) (arr.take (len*inf.size)) 0 #[] (by
    intro j v hj
    have hj':j<len*inf.size:=by
     rcases Z0a j (arr.take (len*inf.size)).length with h|h
     ·omega
     ·simp[Z0b h] at hj
    rw[Z2w,if_pos hj'] at hj;have:w.heap[b.1]? =some (.cells (pre++arr).toArray bl.ty fr):=hblk;show World.cell? {w with drawn:=k} _=_;simp only[World.cell?,this];simp only[Z2b,Z0l,if_false,Z1a,Z0c]
    rw[Z4k,f_ pre _ hp];exact hj)
   rw[hlen2] at hld
   simpa [Builtin.firstCells,loadCells] using hld
 have hb0:=hb;unfold eY at hb;split at hb
 ·rename_i q1 q2 hd
  split at hb
  ·cases hb
   rw[hd] at g1;obtain⟨rfl,_,hv⟩:=g1;exact grown none 0 [] hv (by have:=hnil rfl;omega) (λk=>by simp[Builtin.firstCells]) an rfl (λφ' _=>by simp[All2])
  ·cases hb
 ·rename_i i g ln hd
  split at hb
  ·rename_i bl0 hl
   split at hb
   ·rename_i g' z hgh
    split at hb
    ·rename_i hk
     simp only[Z07,Z0v] at hk;obtain⟨⟨⟨⟨⟨k1,k2⟩,k3⟩,k4⟩,k6⟩,k7⟩:=hk
     have k6:bl0.kind=none:=by simpa using k6
     have k1:=Z0q k1;have k2:=Z0q k2;have k4:=Z0q k4;simp only[Z06,Z0j] at hb;obtain⟨rfl,rfl,rfl,rfl⟩:=hb;rw[hd] at g1;obtain⟨b,cap,hpb,hpg,hv,hlc⟩:=g1
     have hli:lk (res ((some i).toList++foot) L) i=some bl0:=by rw[bq,if_pos an];exact hl
     obtain⟨b2,hb2,pre,ys,rest,fr,p1,hp,p2,p3,p4,p5⟩:=hg.hr i bl0 hli;rw[hpb] at hb2;cases hb2;rw[k6] at p1;simp only[c_] at p1;obtain⟨kk,hkk,hlenk⟩:=p5.1 g' z hgh;rw[k1,hpg] at hkk;cases hkk;refine fitted i b cap pre (ys++rest) fr hp rfl hli hpb hv p1 (p4 k3) (by rw[<-k2];exact hlenk) hC k4 (λφ' hle=>?_) hlc;have:(ys++rest).take (ln*inf.size)=ys.take (ln*inf.size):=Z3o (by rw[p2.len];exact hC);rw[this];exact (p2.mono λ_ _=>Sr.mono (bl0.ph_le hle)).take _
    ·cases hb
   ·cases hb
  ·cases hb
 ·rename_i i ln cap0 hd
  split at hb
  ·rename_i bl0 hl
   split at hb
   ·rename_i hk
    simp only[Z07,Z0v] at hk;obtain⟨⟨⟨⟨k1,k2⟩,k4⟩,k6⟩,k7⟩:=hk
    have k6:bl0.kind=none:=by simpa using k6
    have k4:=Z0q k4;simp only[Z06,Z0j] at hb;obtain⟨rfl,rfl,rfl,rfl⟩:=hb;rw[hd] at g1;obtain⟨b,cap,hpb,hv,hlc,hcap⟩:=g1
    have hcap:cap0=cap:=by
     rcases hcap with h|h
     ·cases h
     ·cases h;rfl
    subst hcap
    have hli:lk (res ((some i).toList++foot) L) i=some bl0:=by rw[bq,if_pos an];exact hl
    obtain⟨b2,hb2,pre,ys,rest,fr,p1,hp,p2,p3,p4,p5⟩:=hg.hr i bl0 hli;rw[hpb] at hb2;cases hb2;rw[k6] at p1;simp only[c_] at p1;have hrest:=p3 k2;subst hrest;have hyl:=p2.len;refine fitted i b cap0 pre (ys++[]) fr hp rfl hli hpb (by rw[Z0c] at hv;exact hv) p1 (p4 k1) (by rw[Z0u,hyl,hC];exact Z02 _) (by rw[hC];exact Z1w _ hlc) k4 (λφ' hle=>?_) hlc;rw[Z0u];exact (p2.mono λ_ _=>Sr.mono (bl0.ph_le hle)).take _
   ·cases hb
  ·cases hb
 ·cases hb
theorem pk {env:List V} {ans:List Ans} {out:Out} {c:Call} {d x:Operand} (ho:o.op=.call c) (hc:c.callee=.builtin .append) (hargs:c.args.toList=[d,x])
 {fl:Bool} (h:nA P c.argTypes n L fl (ev env d) (gT (ev env x)) ans=some out) (hC:out.C):OutOK P o env n L out:=by
 unfold nA at h;split at h
 ·rename_i t tx h0 h1
  split at h
  ·rename_i e dx ht hx
   split at h
   ·rename_i inf zs hdx hi hz
    split at h
    ·rename_i bi len bl C hsz hb
     have hsz:=Z0q hsz;split at h
     ·rename_i m0 hm0
      split at h
      ·rename_i foot m xs D hs
       split at h
       ·rename_i r cs as_
        cases h;obtain⟨c1,c2,c3,c4,c5,c6,c7,c8,c9⟩:=hC;exact⟨dL ho hc hargs h0 h1 ht hx hdx hi hz hsz hb hs c1 c2 c3 c4 c5 c6 c7 c8 c9,Z1o _ _⟩
       ·rw[cD] at h
        cases h;obtain⟨c1,c2,c3,c6,c7,c8,c9⟩:=hC;exact⟨dL ho hc hargs h0 h1 ht hx hdx hi hz hsz hb hs c1 c2 c3 rfl (by rw[AQ]) c6 c7 c8 c9,Z1o _ _⟩
      ·cases h
     ·cases h
    ·cases h
   ·cases h
  ·cases h
 ·cases h
end
end Ab
end Go.Proofs.YtegjgpldfgjoiaaGreatDoor
