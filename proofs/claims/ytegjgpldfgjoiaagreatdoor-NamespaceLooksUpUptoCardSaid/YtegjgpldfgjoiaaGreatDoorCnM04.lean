import Derived.Test.YtegjgpldfgjoiaaGreatDoorCnM03
set_option linter.all false
namespace Go.Proofs.YtegjgpldfgjoiaaGreatDoor
namespace Ab
open Go
section
variable {φ:Ph} {l:List S} {P:Program} {bl:Bl}
theorem OpL.light {o:Oper} {env:List V} {n:Nat} {L:Hp} {v:V}
 (h:∀ φ (a:Act) (w:World),(∀ x∈o.op.operands,Vr φ (ev env x) (a.eval x))->Good φ L w->∃ y,(execOp a.eval o).run P w=.ok (.value y) w/\Vr φ v y):OpL P o env n L v n L:=by
 intro φ a w Q hx hg _;obtain⟨y,hr,hv⟩:=h φ a w hx hg;unfold Oper.wp;rw[hr,Z3q];exact⟨φ,y,rfl,hv,hg,Stp.refl _ _ _,λ_ _=>rfl⟩
theorem OpL.fresh {o:Oper} {env:List V} {n:Nat} {L:Hp} {v:V} (hn:lk L n=none)
 (h:∀ φ (a:Act) (w:World),(∀ x∈o.op.operands,Vr φ (ev env x) (a.eval x))->Good φ L w->
   ∃ y w',(execOp a.eval o).run P w=.ok (.value y) w'/\w'.os=w.os/\w'.tape=w.tape/\w'.output=w.output/\(∃ ob,w'.heap=w.heap.push ob)/\BlAt φ w' (w.heap.size,0) bl/\
     ∀ φ':Ph,φ' n=some (w.heap.size,0)->φ.le φ'->Vr φ' v y):OpL P o env n L v (n+1) (put L n (some bl)):=by
 intro φ a w Q hx hg hf;obtain⟨y,w',hr,h1,h2,h3,⟨ob,h4⟩,h5,h6⟩:=h φ a w hx hg;have hfn:=hf n (Z02 _) aa
 let φ':Ph:=⟨λi=>if i=n then some (w.heap.size,0) else φ i,φ.z⟩
 have hle:φ.le φ':=by
  refine⟨λi b hb=>?_,λ_ _ h=>h⟩;simp only[φ'];split
  ·rename_i e;subst e;rw[hfn] at hb;cases hb
  ·exact hb
 have hsz:w.heap.size<=w'.heap.size:=by rw[h4];simp
 have hkeep:∀ b,b<w.heap.size->w'.heap[b]? =w.heap[b]? :=by
  intro b hb;rw[h4,Z5q hb];simp[hb]
 unfold Oper.wp;rw[hr,Z3q];refine⟨φ',y,rfl,h6 φ' (by simp[φ']) hle,⟨?_,?_,λb l hb=>?_,hg.gz⟩,⟨h1,h2,h3,hsz,λb hb _=>hkeep b hb,?_,λ_ _ h=>h,λ_ _ h=> .inl h⟩,?_⟩
 rotate_left 2
 ·have hlt:=hg.fzlt hb
  refine⟨by rw[hkeep b hlt];exact (hg.fz b l hb).1,?_⟩;rintro⟨i,bl,c,hi,hc,hcb,hro⟩;rw[az] at hi;split at hi
  ·rename_i e;subst e
   simp only[φ',if_true,Z06] at hc;subst hc;simp only at hcb;omega
  ·rename_i e
   simp only[φ',if_neg (Z48 e)] at hc;exact (hg.fz b l hb).2 ⟨i,bl,c,hi,hc,hcb,hro⟩
 rotate_left 2
 ·intro i bi hi
  rw[az] at hi;split at hi
  ·rename_i e;subst e;cases hi
   exact⟨(w.heap.size,0),by simp[φ'],h5.mono hle rfl⟩
  ·obtain⟨b,hb,hat⟩:=hg.hr i bi hi
   exact⟨b,hle i b hb,hat.mono hle (hkeep b.1 hat.lt)⟩
 ·intro i j bi bj b b' hi hj hb hb' hbb
  rw[az] at hi hj
  by_cases ei:n=i<;>by_cases ej:n=j
  ·exact .inl (ei▸ej)
  ·rw[if_neg ej] at hj
   obtain⟨c,hc,hat⟩:=hg.hr j bj hj;have:=hle j c hc;rw[hb'] at this;cases this;subst ei;simp only[φ',if_true,Z06] at hb;subst hb;simp only at hbb;have:=hat.lt;omega
  ·rw[if_neg ei] at hi
   obtain⟨c,hc,hat⟩:=hg.hr i bi hi;have:=hle i c hc;rw[hb] at this;cases this;subst ej;simp only[φ',if_true,Z06] at hb';subst hb';simp only at hbb;have:=hat.lt;omega
  ·rw[if_neg ei] at hi
   rw[if_neg ej] at hj;simp only[φ',if_neg (Z48 ei)] at hb;simp only[φ',if_neg (Z48 ej)] at hb';exact hg.inj i j bi bj b b' hi hj hb hb' hbb
 ·intro j bj b hj hb hlt
  rw[az] at hj;by_cases ej:n=j
  ·subst ej;simp only[φ',if_true,Z06] at hb;subst hb;simp only at hlt;omega
  ·rw[if_neg ej] at hj
   simp only[φ',if_neg (Z48 ej)] at hb;exact⟨j,bj,b,hj,hb,rfl,id,.inl rfl⟩
 ·intro i hi
  simp only[φ'];rw[if_neg aa]
def cellsOf:V->Option (List S)
 | .s x=>match ya x with|false=>some [x]|true=>none
 | .agg l=>some l
 |_=>none
theorem pO {v:Value} (h:fL v=true):v.cells= #[v]:=by cases v<;>first|rfl|cases h
theorem l5 {v:V} {y:Value} (h:cellsOf v=some l) (hv:Vr φ v y):All2 (Sr φ) l y.cells.toList:=by
 cases v<;>simp only[cellsOf,Z06,reduceCtorEq] at h
 ·split at h
  ·rename_i hj
   cases h;have:=Sr.cell hv hj;rw[pO this];exact⟨hv,trivial⟩
  ·cases h
 subst h
 ·obtain⟨xs,rfl,hall⟩:=hv
  simpa [Value.cells] using hall
def toS:Value->Option S
 | .bool b=>some (.bool b)
 | .int k n=>some (.int k n)
 | .string s=>some (.str s.data.toList)
 | .pointer none=>some (.ptr none)
 | .slice none 0 0=>some (.slc none 0 (some 0))
 | .map none=>some (.map none)
 | .agg _=>none
 | .tuple _=>none
 |_=>some .unk
theorem Gq {v:Value} {x:S} (h:toS v=some x):Sr φ x v:=by
 unfold toS at h
 split at h<;>simp only[Z06,reduceCtorEq] at h
 all_goals subst h
 all_goals first|rfl|exact⟨rfl,rfl,rfl⟩|skip
 ·rename_i h6 h7
  cases v<;>first|rfl|exact (h6 _ rfl).elim|exact (h7 _ rfl).elim
def y9:List Value->Option (List S)
 |[]=>some []
 |v::t=>match toS v,y9 t with|some x,some l=>some (x::l)|_,_=>none
theorem vG {φ:Ph}:∀ {vs:List Value} {l:List S},y9 vs=some l->All2 (Sr φ) l vs
 |[],l,h=>by simp[y9] at h;subst h;trivial
 |v::t,l,h=>by
  simp only[y9] at h;split at h
  ·rename_i x l' h1 h2
   cases h;exact⟨Gq h1,vG h2⟩
  ·cases h
def dz (P:Program) (t:TypeId):Option (List S):=
 match P.info? t with
 |some i=>match i.zero with|some v=>y9 v.cells.toList|none=>none
 |none=>none
theorem fx {t:TypeId} (h:dz P t=some l) (w:World):∃ z,(zeroValue t).run P w=.ok z w/\∀ φ,All2 (Sr φ) l z.cells.toList:=by
 unfold dz at h;split at h
 ·rename_i i hi
  split at h
  ·rename_i v hv
   exact⟨v,by simp[zeroValue,typeInfo,hi,hv],λφ=>vG h⟩
  ·cases h
 ·cases h
def As (n:Nat) (ty:TypeId) (l:List S) (ans:List Ans):Out:=⟨⟨[],.s (.ptr (some (n,0))),[(n,some {cells:=l,ty})],n+1⟩,ans,True⟩
theorem vd {w w':World} {xs:List Value} {ty:TypeId} (hw:w'.heap=w.heap.push (.cells xs.toArray ty)) (h:All2 (Sr φ) l xs):BlAt φ w' (w.heap.size,0) {cells:=l,ty}:=by
 refine⟨[],xs,[],(0,0),by rw[hw];simp[c_],rfl,by simpa [Bl.ph] using h,λ_=>rfl,λ_ o _=>by simp,⟨λg z (e:(none:Option (Nat×Nat))=some (g,z))=>(by cases e),λg (e:(none:Option Nat)=some g)=>(by cases e)⟩⟩
def bR {α:Type} (arr:List α):Nat->List α->List α
 |_,[]=>arr
 |o,v::t=>bR (arr.set o v) (o+1) t
theorem iA {α:Type}:∀ (vs:List α) (arr:List α) (o:Nat),(bR arr o vs).length=arr.length
 |[],_,_=>rfl
 |v::t,arr,o=>by simp only[bR];rw[iA t];simp
theorem vK {φ:Ph}:∀ {l:List S} {vs:List Value} {cs:List S} {arr:List Value} (o:Nat),All2 (Sr φ) cs arr->All2 (Sr φ) l vs->All2 (Sr φ) (bR cs o l) (bR arr o vs)
 |[],[],_,_,_,h,_=>h
 |_::_,_::_,_,_,o,h,h'=>vK (o+1) (h.set h'.1) h'.2
 |[],_::_,_,_,_,_,h=>h.elim
 |_::_,[],_,_,_,_,h=>h.elim
theorem iB {α:Type}:∀ (vs:List α) (arr rest:List α) (o:Nat),o+vs.length<=arr.length->bR (arr++rest) o vs=bR arr o vs++rest
 |[],_,_,_,_=>rfl
 |v::t,arr,rest,o,h=>by
  simp only[bR];rw[List.set_append_left _ _ (by simp at h;omega),iB t _ _ _ (by simp at h |-;omega)]
theorem kj {α:Type}:∀ (vs:List α) (pre l:List α) (o k:Nat),pre.length=k->bR (pre++l) (o+k) vs=pre++bR l o vs
 |[],_,_,_,_,_=>rfl
 |v::t,pre,l,o,k,h=>by
  simp only[bR];rw[Z4y _ _ aa,show o+k+1=(o+1)+k by omega,kj t pre _ _ k h,show o+k-pre.length=o by omega]
def World.withBlock (w:World) (b:Nat) (ob:Obj):World:={w with heap:=w.heap.setIfInBounds b ob}
theorem pw (w:World) (b:Nat) (ob:Obj) (h:b<w.heap.size):(World.withBlock w b ob).heap[b]? =some ob:=by simp[World.withBlock,h]
theorem qH (w:World) (b:Nat) (ob:Obj) (c:Nat) (h:c≠b):(World.withBlock w b ob).heap[c]? =w.heap[c]? :=by simp[World.withBlock,Z3i (Z48 h)]
theorem pD {w:World} {b o:Nat} {arr:List Value} {ty:TypeId} {fr:Nat×Nat} (hb:w.heap[b]? =some (.cells arr.toArray ty fr)) (v:Value):
 w.setCell ⟨b,o,none⟩ v=World.withBlock w b (.cells (arr.set o v).toArray ty fr):=by
 have hlt:b<w.heap.size:=by
  rcases Z0a b w.heap.size with h|h
  ·exact h
  ·simp[Z32 h] at hb
 unfold World.setCell World.withBlock;congr 1;apply Array.ext_getElem?;intro i;rw[Z5v];by_cases e:b=i
 ·subst e
  rw[if_pos rfl,hb];simp[hlt]
 ·rw[if_neg e,Z3i e]
theorem dS {P:Program} {b o:Nat} {ty:TypeId} {fr:Nat×Nat}:∀ (vs:List Value) (i:Nat) (w:World) (arr:List Value),w.heap[b]? =some (.cells arr.toArray ty fr)->
 (∀ v∈vs,fL v=true)->o+i+vs.length<=arr.length->(∀ x,x<arr.length->(fr.1<=x&&x<fr.2)=false)->
 ∃ w',(storeCells ⟨b,o,none⟩ vs i).run P w=.ok () w'/\w'.os=w.os/\w'.tape=w.tape/\w'.output=w.output/\w'.heap.size=w.heap.size/\w'.heap[b]? =some (.cells (bR arr (o+i) vs).toArray ty fr)/\∀ c,c≠b->w'.heap[c]? =w.heap[c]?
 |[],i,w,arr,hb,_,_,_=>⟨w,by simp[storeCells],rfl,rfl,rfl,rfl,hb,λ_ _=>rfl⟩
 |v::vs,i,w,arr,hb,hc,hl,hfr=>by
  have hlt:b<w.heap.size:=by
   rcases Z0a b w.heap.size with h|h
   ·exact h
   ·simp[Z32 h] at hb
  have hol:o+i<arr.length:=by simp at hl;omega
  have h1:v.oneCell'=true:=by
   have:=hc v (.head _)
   cases v<;>first|rfl|cases this
  have hcell:w.cell? ⟨b,o+i,none⟩=some arr[o+i]:=by simp[World.cell?,hb,hol]
  have hfz:w.frozen? ⟨b,o+i,none⟩=false:=by simp only[World.frozen?,hb];exact hfr _ hol
  obtain⟨w',hr,g1,g2,g3,g4,g5,g6⟩:=dS (P:=P) (b:=b) (o:=o) vs (i+1) (World.withBlock w b (.cells (arr.set (o+i) v).toArray ty fr)) (arr.set (o+i) v) (pw _ _ _ hlt)
   (λx hx=>hc x (.tail _ hx)) (by simp at hl |-;omega) (by simpa using hfr)
  refine⟨w',?_,g1,g2,g3,?_,?_,?_⟩
  ·simp only[storeCells,bv,Z09]
   rw[run_store P w _ v _ h1];simp only[hcell,hfz,Z0l,if_false,Z05];rw[pD hb];exact hr
  ·rw[g4];simp[World.withBlock]
  ·rw[g5];simp only[bR];rw[show o+(i+1)=o+i+1 by omega]
  ·intro c hcb;rw[g6 c hcb,qH _ _ _ _ hcb]
def bM:S->Bool
 | .ptr (some _)=>false
 | .slc (some _) _ _=>false
 | .sla _ _ _=>false
 | .map (some _)=>false
 | .itr _ _=>false
 | .clo _ _=>false
 | .opq _ _ _=>false
 | .junk=>false
 | .row _ _ _=>false
 |_=>true
theorem xV {ψ:Ph} (hz:∀ b l,φ.z b=some l->ψ.z b=some l) {x:S} {v:Value} (h:bM x=true) (hs:Sr φ x v):Sr ψ x v:=by
 cases x with
 |unk|bool|int|str|emp|emq|fn|gp|cst=>exact hs
 |frz=>exact Pr.mono hz hs
 |fpt cs j=>obtain⟨b,o,vs,h1,hv,hx⟩:=hs;exact⟨b,o,vs,hz _ _ h1,hv,λi x hi=>by obtain⟨y,hy,hp⟩:=hx i x hi;exact⟨y,hy,hp.mono hz⟩⟩
 |row=>cases h
 |sla i g n=>cases h
 |map a=>rcases a with _|i<;>first|exact hs|cases h
 |itr r m=>cases h
 |clo f ps=>cases h
 |opq k t K=>cases h
 |junk=>cases h
 |ptr a=>rcases a with _|⟨i,o⟩<;>first|exact hs|cases h
 |slc a n c=>rcases a with _|⟨i,o⟩<;>first|exact hs|cases h
theorem gF {φ ψ:Ph} (hz:∀ b l,φ.z b=some l->ψ.z b=some l):∀ {l:List S} {vs:List Value},l.all bM=true->All2 (Sr φ) l vs->All2 (Sr ψ) l vs
 |[],[],_,_=>trivial
 |_::_,_::_,h,h'=>by
  simp only[Z1b,Z07] at h;exact⟨xV hz h.1 h'.1,gF hz h.2 h'.2⟩
 |[],_::_,_,h=>h.elim
 |_::_,[],_,h=>h.elim
def nJ (x:S):Bool:=match ya x with|true=>false|false=>true
def bC (bl:Bl) (l:List S):Bool:=match bl.flat with|true=>l.all bM|false=>l.all nJ
theorem lS (h:bC bl l=true) {j:Nat} {s:S} (hs:l[j]? =some s):ya s=false:=by
 have hm:s∈l:=Z4i hs;unfold bC at h;split at h
 ·have:=Z0i.1 h s hm
  cases s<;>first|rfl|cases this
 ·have:=Z0i.1 h s hm
  unfold nJ at this;split at this
  ·cases this
  ·assumption
theorem nO {w w':World} {i:Nat} {b:Nat×Nat} (hkd:bl.kind=none) {o:Nat} {vs:List Value} {cs':List S} (hg:Good φ [(i,some bl)] w) (hb:φ i=some b) (hro:bl.ro=false) (hfit:bC bl l=true)
 (hl:All2 (Sr φ) l vs) (hle:o+l.length<=bl.cells.length) (hcs:cs'=bR bl.cells o l)
 (hw:∃ pre xs rest fr,w.heap[b.1]? =some (.cells (pre++(xs++rest)).toArray bl.ty fr)/\pre.length=b.2/\All2 (Sr (bl.ph φ)) bl.cells xs/\(bl.more=false->rest=[])/\(∀ x,x<(pre++(xs++rest)).length->(fr.1<=x&&x<fr.2)=false)/\((∀ g z,bl.gh=some (g,z)->∃ k,φ g=some (k,0)/\k*z<=(xs++rest).length)/\(∀ g,bl.abs=some g->b=(g,0)))/\
   w'.heap[b.1]? =some (.cells (bR (pre++(xs++rest)) (o+b.2) vs).toArray bl.ty fr))
 (h1:w'.os=w.os) (h2:w'.tape=w.tape) (h3:w'.output=w.output) (h4:w'.heap.size=w.heap.size) (h6:∀ c,c≠b.1->w'.heap[c]? =w.heap[c]?):
 Good φ [(i,some {bl with cells:=cs'})] w'/\Stp φ [(i,some bl)] w φ [(i,some {bl with cells:=cs'})] w':=by
 obtain⟨pre,xs,rest,fr,e1,hp,e2,e3,e4,e6,e5⟩:=hw;subst hcs;have hlen:=e2.len;have hvl:=hl.len
 have at':BlAt φ w' b {bl with cells:=bR bl.cells o l}:=by
  refine⟨pre,bR xs o vs,rest,fr,?_,hp,?_,e3,λ_ x hx=>e4 x (by simpa [iA] using hx),λg z e=>by simpa [iA] using e6.1 g z e,e6.2⟩
  ·rw[show ({bl with cells:=bR bl.cells o l}:Bl).kind=none from hkd];simp only[c_];rw[e5,kj _ _ _ _ _ hp,iB _ _ _ _ aa]
  ·show All2 (Sr (bl.ph φ)) _ _
   refine vK o e2 ?_;unfold bC at hfit;unfold Bl.ph
   cases hf:bl.flat with
   |false=>simpa [hf] using hl
   |true=>rw[hf] at hfit;exact gF (φ:=φ) (ψ:=⟨λ_=>none,φ.z⟩) (λ_ _ h=>h) hfit hl
 have one:∀ (c:Bl) j bj,lk [(i,some c)] j=some bj->j=i/\bj=c:=by
  intro c j bj hj;rw[bd] at hj;split at hj
  ·rename_i e;cases hj;exact⟨e.symm,rfl⟩
  ·simp[lk] at hj
 refine⟨⟨?_,?_,λc l hc=>?_,hg.gz⟩,⟨h1,h2,h3,aa,?_,?_,λ_ _ h=>h,λ_ _ h=> .inl h⟩⟩
 rotate_left 2
 ·have hn:=(hg.fz c l hc).2
  have hne:c≠b.1:=λe=>hn ⟨i,bl,b,by simp[lk],hb,e.symm,hro⟩
  refine⟨by rw[h6 c hne];exact (hg.fz c l hc).1,?_⟩;rintro⟨j,bj,d,hj,hd,hdc,_⟩;obtain⟨rfl,_⟩:=one _ _ _ hj;rw[hb] at hd;cases hd;exact hne hdc.symm
 rotate_left 2
 ·intro j bj hj
  obtain⟨rfl,rfl⟩:=one _ _ _ hj;exact⟨b,hb,at'⟩
 ·intro j k bj bk c c' hj hk _ _ _
  obtain⟨rfl,_⟩:=one _ _ _ hj;obtain⟨rfl,_⟩:=one _ _ _ hk;exact .inl rfl
 ·intro c _ hn
  exact h6 c λe=>hn ⟨i,bl,b,by simp[lk],hb,e.symm,hro⟩
 ·intro j bj c hj hc _
  obtain⟨rfl,rfl⟩:=one _ _ _ hj;exact⟨j,bl,c,by simp[lk],hc,rfl,λe=>e,.inl rfl⟩
end
section
variable {P:Program} {o:Oper} {env:List V} {n:Nat} {L:Hp} {ans:List Ans} {out:Out} {t:TypeId} {x:Operand}
def rv {α β:Type}:List α->List α->(List α->β)->β
 |[],out,k=>k out
 |x::t,out,k=>rv t (x::out) k
def li {α β:Type}:List α->List α->(List α->β)->β
 |[],acc,k=>rv acc [] k
 |x::t,acc,k=>li t (x::acc) k
theorem xL {α β:Type} (k:List α->β):∀ (l out:List α),rv l out k=k (l.reverse++out)
 |[],_=>rfl
 |x::t,out=>by simp only[rv];rw[xL k t];simp
theorem yg {α β:Type} (k:List α->β):∀ (l acc:List α),li l acc k=k (acc.reverse++l)
 |[],acc=>by simp only[li];rw[xL]
 |x::t,acc=>by simp only[li];rw[yg k t];simp
theorem cD {α β:Type} (k:List α->β) (l:List α):li l [] k=k l:=by rw[yg];rfl
def iR {β:Type} (v:V) (k:V->β):β:=
 match v with
 | .any=>k .any
 | .undef=>k .undef
 | .s x=>k (.s x)
 | .agg l=>li l [] λl=>k (.agg l)
 | .tup l=>li l [] λl=>k (.tup l)
 | .w i g sz j m=>k (.w i g sz j m)
theorem eA {β:Type} (v:V) (k:V->β):iR v k=k v:=by cases v<;>simp only[iR,cD]
def lt (n:Nat) (v:V) (ans:List Ans) (C:Prop):Option Out:=iR v λv=>some ⟨⟨[],v,[],n⟩,ans,C⟩
theorem x6 (n:Nat) (v:V) (ans:List Ans) (C:Prop):lt n v ans C=some ⟨⟨[],v,[],n⟩,ans,C⟩:=eA _ _
def oe (n:Nat) (x:SO):Option Out:=match x with|some (s,as_,C)=>some ⟨⟨[],.s s,[],n⟩,as_,C⟩|none=>none
def OutOK (P:Program) (o:Oper) (env:List V) (n:Nat) (L:Hp) (out:Out):Prop:=
 OpL P o env n (res out.r.foot L) out.r.v out.r.n' (aw (res out.r.foot L) out.r.wr)/\n<=out.r.n'
theorem gb {v:V} {C:Prop} (h:lt n v ans C=some out)
 (hy:∀ φ (a:Act) (w:World),(∀ x∈o.op.operands,Vr φ (ev env x) (a.eval x))->∃ y,(execOp a.eval o).run P w=.ok (.value y) w/\Vr φ v y):OutOK P o env n L out:=by
 rw[x6] at h;cases h;exact⟨OpL.light λφ a w hx _=>hy φ a w hx,Z02 _⟩
theorem jd {so:SO} (h:oe n so=some out) (hC:out.C)
 (hy:∀ s as_ C,so=some (s,as_,C)->C->∀ φ (a:Act) (w:World),(∀ x∈o.op.operands,Vr φ (ev env x) (a.eval x))->∃ y,(execOp a.eval o).run P w=.ok (.value y) w/\Sr φ s y):OutOK P o env n L out:=by
 unfold oe at h;split at h
 ·rename_i s as_ C
  cases h;exact⟨OpL.light λφ a w hx _=>hy s as_ C rfl hC φ a w hx,Z02 _⟩
 ·cases h
def bJ (o k:Nat):Nat:=match o with|0=>k|o+1=>match k with|0=>o+1|k=>o+1+k
theorem am (o k:Nat):bJ o k=o+k:=by unfold bJ;cases o<;>cases k<;>simp
def bG (k s:Nat):Nat:=match s with|1=>k|s=>k*s
theorem aB (k s:Nat):bG k s=k*s:=by unfold bG;split<;>simp
def mr (z:Int) (len:Nat):List Ans->Nat×List Ans×Prop
 | .idx k::as_=>(k,as_,z=(k:Int)/\k<len)
 |as_=>(z.toNat,as_,0<=z/\z<(len:Int))
theorem oK {z:Int} {len:Nat} {k:Nat} {as_:List Ans} {C:Prop} (h:mr z len ans=(k,as_,C)) (hC:C):0<=z/\z<(len:Int)/\z.toNat=k:=by
 unfold mr at h
 split at h<;>simp only[Z0j] at h<;>obtain⟨rfl,rfl,rfl⟩:=h
 ·obtain⟨rfl,h2⟩:=hC;exact⟨aa,aa,aa⟩
 ·exact⟨hC.1,hC.2,rfl⟩
def iV (P:Program) (s:TypeId) (f:Nat):Option Nat:=
 match P.underlying s with
 |some (.struct fs)=>
  match fs[f]? with
  |some fd=>
   match P.info? fd.type with
   |some i=>match i.size with|0=>none|_+1=>some fd.offset
   |none=>none
  |none=>none
 |_=>none
theorem iU {s:TypeId} {f off:Nat} (h:iV P s f=some off) (b o:Nat) (w:World):(Instr.fieldAt s (.pointer (some ⟨b,o,none⟩)) f).run P w=.ok (.pointer (some ⟨b,o+off,none⟩)) w:=by
 unfold iV at h;split at h
 ·rename_i fs hty
  split at h
  ·rename_i fd hfd
   split at h
   ·rename_i i hi
    split at h
    ·cases h
    ·rename_i k hk
     cases h
     have hs:(sizeOf fd.type).run P w=.ok (k+1) w:=by simp[sizeOf,typeInfo,hi,hk]
     simp only[Instr.fieldAt,Z09,run_underlying hty,Z05,hfd,Instr.sureAddr,Z0f,fieldPlace,hs,bv];simp
   ·cases h
  ·cases h
 ·cases h
def sM (P:Program) (n:Nat) (s:TypeId) (x:V) (f:Nat) (ans:List Ans):Option Out:=
 match x with
 | .s (.ptr (some (i,o)))=>match iV P s f with|some off=>lt n (.s (.ptr (some (i,bJ o off)))) ans True|none=>none
 |_=>none
def ct (P:Program) (e:TypeId):Option Nat:=match P.info? e with|some i=>some i.size|none=>none
theorem aM {e:TypeId} {sz:Nat} (h:ct P e=some sz) (w:World):(sizeOf e).run P w=.ok sz w:=by
 unfold ct at h;split at h
 ·rename_i i hi;cases h;simp[sizeOf,typeInfo,hi]
 ·cases h
def ig (P:Program) (n:Nat) (t:TypeId) (x ix:V) (ans:List Ans):Option Out:=
 match ix with
 | .s (.int _ z)=>
   match P.underlying t with
   |some (.slice e)=>
    match x,ct P e with
    | .s (.slc (some (i,o)) len _),some sz=>match mr z len ans with|(k,as_,C)=>lt n (.s (.ptr (some (i,bJ o (bG k sz))))) as_ C
    |_,_=>none
   |some (.array len e)=>
    match x,ct P e with
    | .s (.ptr (some (i,o))),some sz=>match mr z len ans with|(k,as_,C)=>lt n (.s (.ptr (some (i,bJ o (bG k sz))))) as_ C
    |_,_=>none
   |_=>none
 |_=>none
def sK (P:Program) (n:Nat) (t:TypeId) (x ix:V) (ans:List Ans):Option Out:=
 match ix with
 | .s (.int _ z)=>
   match P.underlying t with
   |some .string=>
    match x with
    | .s (.str l)=>match mr z l.length ans with|(k,as_,C)=>lt n (.s (.int .u8 ((l.getD k 0).toNat:Int))) as_ C
    |_=>none
   |_=>none
 |_=>none
theorem pQ {ix:Operand} (ho:o.op=.indexAddr t x ix)
 (h:ig P n t (ev env x) (ev env ix) ans=some out) (hC:out.C):OutOK P o env n L out:=by
 unfold ig at h;split at h
 ·rename_i ki z hix
  split at h
  ·rename_i e hty
   split at h
   ·rename_i i off len c sz hx hsz
    rcases hq:mr z len ans with ⟨k,as_,C⟩
    rw[hq] at h;dsimp only at h
    have hC':C:=by rw[x6] at h;cases h;exact hC
    obtain⟨h1,h2,h3⟩:=oK hq hC'
    refine gb h λφ a w hop=>?_
    have g1:=hop x (by simp[ho,Op.operands]);have g2:=hop ix (by simp[ho,Op.operands]);rw[hx] at g1;rw[hix] at g2;obtain⟨b,cp,hb,hv,_⟩:=g1;simp only[Vr,Sr] at g2;refine⟨.pointer (some ⟨b.1,bJ off (bG k sz)+b.2,none⟩),?_,b,hb,rfl⟩;simp only[execOp,ho,hv,g2,Instr.indexAt,asIntOf,Z09,Z0f,run_underlying hty,Z05,aM hsz,bv,am,aB,h3];rw[if_pos ⟨h1,h2⟩];simp[aM hsz,bv,h3]
   ·cases h
  ·rename_i len e hty
   split at h
   ·rename_i i off sz hx hsz
    rcases hq:mr z len ans with ⟨k,as_,C⟩
    rw[hq] at h;dsimp only at h
    have hC':C:=by rw[x6] at h;cases h;exact hC
    obtain⟨h1,h2,h3⟩:=oK hq hC'
    refine gb h λφ a w hop=>?_
    have g1:=hop x (by simp[ho,Op.operands]);have g2:=hop ix (by simp[ho,Op.operands]);rw[hx] at g1;rw[hix] at g2;obtain⟨b,hb,hv⟩:=g1;simp only[Vr,Sr] at g2;refine⟨.pointer (some ⟨b.1,bJ off (bG k sz)+b.2,none⟩),?_,b,hb,rfl⟩;simp only[execOp,ho,hv,g2,Instr.indexAt,Instr.sureAddr,asIntOf,Z09,Z0f,run_underlying hty,Z05,aM hsz,bv,am,aB,h3];rw[if_pos ⟨h1,h2⟩];simp[aM hsz,bv,h3]
   ·cases h
  ·cases h
 ·cases h
theorem Au {ix:Operand} (ho:o.op=.index t x ix)
 (h:sK P n t (ev env x) (ev env ix) ans=some out) (hC:out.C):OutOK P o env n L out:=by
 unfold sK at h;split at h
 ·rename_i ki z hix
  split at h
  ·rename_i hty
   split at h
   ·rename_i l hx
    rcases hq:mr z l.length ans with ⟨k,as_,C⟩
    rw[hq] at h;dsimp only at h
    have hC':C:=by rw[x6] at h;cases h;exact hC
    obtain⟨h1,h2,h3⟩:=oK hq hC'
    refine gb h λφ a w hop=>?_
    have g1:=hop x (by simp[ho,Op.operands]);have g2:=hop ix (by simp[ho,Op.operands]);rw[hx] at g1;rw[hix] at g2;simp only[Vr,Sr] at g1 g2;refine⟨_,?_,rfl⟩;have hk:k<l.length:=aa
    have he:(⟨l.toArray⟩:ByteArray)[k]? =some l[k]:=by
     have hk':k<(⟨l.toArray⟩:ByteArray).size:=hk;rw[getElem?_pos _ k hk'];rfl
    simp only[execOp,ho,g1,g2,Instr.index,asIntOf,Z09,Z0f,run_underlying hty,Z05,h3,if_pos h1,he];simp[hk]
   ·cases h
  ·cases h
 ·cases h
theorem Av {s:TypeId} {f:Nat} (ho:o.op=.fieldAddr s x f)
 (h:sM P n s (ev env x) f ans=some out):OutOK P o env n L out:=by
 unfold sM at h;split at h
 ·rename_i i off hx
  split at h
  ·rename_i d hd
   refine gb h λφ a w hop=>?_
   have g1:=hop x (by simp[ho,Op.operands]);rw[hx] at g1;obtain⟨b,hb,hv⟩:=g1;refine⟨.pointer (some ⟨b.1,bJ off d+b.2,none⟩),?_,b,hb,rfl⟩;simp only[execOp,ho,hv,Z09,iU hd,Z05,Z0f,am,Nat.add_right_comm]
  ·cases h
 ·cases h
def yT (P:Program) (n:Nat) (L:Hp) (t:TypeId) (x:V) (ans:List Ans):Option Out:=
 match x with
 | .s (.ptr (some (i,o)))=>
   match lk L i,y8 P t with
   |some bl,some (ag,sz)=>
    match bl.sym with
    |false=>
     match ans with
     | .ldv v::as_=>some ⟨⟨[i],v,[],n⟩,as_,ef ag sz bl o=some v⟩
     |ans=>match ef ag sz bl o with|some v=>iR v λv=>some ⟨⟨[i],v,[],n⟩,ans,True⟩|none=>none
    |true=>match ans with| .val v::as_=>some ⟨⟨[i],v,[],n⟩,as_,ef ag sz bl o=some v⟩|_=>none
   |_,_=>none
 |_=>none
theorem DV (ho:o.op=.load t x)
 (h:yT P n L t (ev env x) ans=some out) (hC:out.C):OutOK P o env n L out:=by
 have key:∀ (i off:Nat) (bl:Bl) (ag:Bool) (sz:Nat) (v:V),ev env x=.s (.ptr (some (i,off)))->lk L i=some bl->y8 P t=some (ag,sz)->ef ag sz bl off=some v->OpL P o env n (res [i] L) v n (res [i] L):=by
  intro i off bl ag sz v hx hl ht hld
  refine OpL.light λφ a w hop hg=>?_
  have g1:=hop x (by simp[ho,Op.operands]);rw[hx] at g1;obtain⟨b,hb,hv⟩:=g1;obtain⟨b',hb',hat⟩:=hg.hr i bl (by rw[bq];simp[hl]);rw[hb] at hb';cases hb';obtain⟨y,hy,hr⟩:=mh hat ht hld;exact⟨y,by simp only[execOp,ho,hv,Instr.loadAt,Instr.sureAddr,Z09,Z0f,Z05,hy],hr⟩
 unfold yT at h;split at h
 ·rename_i i off hx
  split at h
  ·rename_i bl ag sz hl ht
   split at h
   ·split at h
    ·rename_i v as_
     cases h;exact⟨key i off bl ag sz v hx hl ht hC,Z02 _⟩
    ·split at h
     ·rename_i v hld
      rw[eA] at h;cases h;exact⟨key i off bl ag sz v hx hl ht hld,Z02 _⟩
     ·cases h
   ·split at h
    ·rename_i v as_
     cases h;exact⟨key i off bl ag sz v hx hl ht hC,Z02 _⟩
    ·cases h
  ·cases h
 ·cases h
def mc (P:Program) (n:Nat) (L:Hp) (t:TypeId) (x v:V) (ans:List Ans):Option Out:=
 match x with
 | .s (.ptr (some (i,o)))=>
   match lk L i,ct P t,cellsOf v with
   |some bl,some sz,some l=>
    match Nat.beq l.length sz&& !bl.ro&&bC bl l&&bl.kind.isNone with
    |true=>
     match bl.sym with
     |false=>
      match ans with
      | .stc cs::as_=>some ⟨⟨[i],.undef,[(i,some {bl with cells:=cs})],n⟩,as_,o+l.length<=bl.cells.length/\cs=bR bl.cells o l⟩
      |ans=>match Nat.ble (o+l.length) bl.cells.length with|true=>li (bR bl.cells o l) [] λcs=>some ⟨⟨[i],.undef,[(i,some {bl with cells:=cs})],n⟩,ans,True⟩|false=>none
     |true=>match ans with| .cells cs::as_=>some ⟨⟨[i],.undef,[(i,some {bl with cells:=cs})],n⟩,as_,o+l.length<=bl.cells.length/\cs=bR bl.cells o l⟩|_=>none
    |false=>none
   |_,_,_=>none
 |_=>none
theorem qC {y:Operand} (ho:o.op=.store t x y)
 (h:mc P n L t (ev env x) (ev env y) ans=some out) (hC:out.C):OutOK P o env n L out:=by
 have key:∀ (i off:Nat) (bl:Bl) (sz:Nat) (l cs:List S),ev env x=.s (.ptr (some (i,off)))->lk L i=some bl->ct P t=some sz->cellsOf (ev env y)=some l->
  (Nat.beq l.length sz&& !bl.ro&&bC bl l&&bl.kind.isNone)=true->off+l.length<=bl.cells.length->cs=bR bl.cells off l->
  OpL P o env n (res [i] L) .undef n (aw (res [i] L) [(i,some {bl with cells:=cs})]):=by
  intro i off bl sz l cs hx hl ht hcl hchk hle hcs φ a w Q hop hg hf;simp only[Z07,Z0v] at hchk;obtain⟨⟨⟨hsz,hro⟩,hfit⟩,hkd⟩:=hchk
  have hkd:bl.kind=none:=by simpa using hkd
  have hsz:=Z0q hsz;have g1:=hop x (by simp[ho,Op.operands]);have g2:=hop y (by simp[ho,Op.operands]);rw[hx] at g1;obtain⟨b,hb,hv⟩:=g1;have hall:=l5 hcl g2
  have e1:res [i] L=[(i,some bl)]:=by simp[res,hl]
  have e2:aw (res [i] L) [(i,some {bl with cells:=cs})]=[(i,some {bl with cells:=cs})]:=by rw[e1];simp[aw,put]
  rw[e2];rw[e1] at hg |-;obtain⟨b',hb',pre,xs,rest,fr,k1,hp,k2,k3,k4,k5⟩:=hg.hr i bl (by simp[lk]);rw[hkd] at k1;simp only[c_] at k1;rw[hb] at hb';cases hb';have hvl:=hall.len
  obtain⟨w',hr,q1,q2,q3,q4,q5,q6⟩:=dS (P:=P) (b:=b.1) (o:=off+b.2) (a.eval y).cells.toList 0 w (pre++(xs++rest)) k1
   (λz hz=>by
     obtain⟨j,hj,hz⟩:=List.getElem_of_mem hz;obtain⟨s,hsm,hs⟩:=hall.get' (i:=j) (b:=z) (by rw[<-hz];simp[hj])
     exact hs.cell (lS hfit hsm))
   (by have:=k2.len;simp only[Z03];omega) (k4 hro)
  have hrun:(execOp a.eval o).run P w=.ok .skip w':=by
   have hs:=aM ht w
   have: ¬((a.eval y).cells.size≠sz):=by rw[<-Z28];omega
   simp only[execOp,ho,hv,Instr.storeAt,Instr.sureAddr,storeVar,Z09,Z0f,Z05,hs,if_neg this,hr]
  unfold Oper.wp;rw[hrun,Z5w];obtain⟨good,stp⟩:=nO (w':=w') (cs':=cs) hkd hg hb hro hfit hall hle hcs ⟨pre,xs,rest,fr,k1,hp,k2,k3,k4 hro,k5,by simpa using q5⟩ q1 q2 q3 q4 q6;exact⟨φ,Go.undef,rfl,rfl,good,stp,λ_ _=>rfl⟩
 unfold mc at h;split at h
 ·rename_i i off hx
  split at h
  ·rename_i bl sz l hl ht hcl
   split at h
   ·rename_i hchk
    split at h
    ·split at h
     ·rename_i cs as_
      cases h;exact⟨key i off bl sz l cs hx hl ht hcl hchk hC.1 hC.2,Z02 _⟩
     ·split at h
      ·rename_i hle
       rw[cD] at h;cases h;exact⟨key i off bl sz l _ hx hl ht hcl hchk (Z1y hle) rfl,Z02 _⟩
      ·cases h
    ·split at h
     ·rename_i cs as_
      cases h;exact⟨key i off bl sz l cs hx hl ht hcl hchk hC.1 hC.2,Z02 _⟩
     ·cases h
   ·cases h
  ·cases h
 ·cases h
theorem yR {n:Nat} {L:Hp} {ty:TypeId} {l:List S} {ans:List Ans}
 (h:∀ φ (a:Act) (w:World),(∀ x∈o.op.operands,Vr φ (ev env x) (a.eval x))->∃ xs:List Value,(execOp a.eval o).run P w=.ok (.value (.pointer (some ⟨w.heap.size,0,none⟩))) {w with heap:=w.heap.push (.cells xs.toArray ty)}/\All2 (Sr φ) l xs):
 OutOK P o env n L (As n ty l ans):=by
 refine⟨?_,Z3s _⟩
 have e:aw (res (As n ty l ans).r.foot L) (As n ty l ans).r.wr=put [] n (some {cells:=l,ty}):=by simp[As,res,aw]
 rw[e]
 refine OpL.fresh (L:=[]) (by simp[lk]) λφ a w hop _=>?_
 obtain⟨xs,hr,hall⟩:=h φ a w hop;exact⟨_,_,hr,rfl,rfl,rfl,⟨_,rfl⟩,vd rfl hall,λφ' hn _=>⟨_,hn,rfl⟩⟩
def sQ (P:Program) (n:Nat) (t:TypeId) (ans:List Ans):Option Out:=match dz P t with|some l=>li l [] λl=>some (As n t l ans)|none=>none
theorem Ay (ho:o.op=.alloc t) (h:sQ P n t ans=some out):OutOK P o env n L out:=by
 unfold sQ at h;split at h
 ·rename_i l hz
  rw[cD] at h;cases h
  refine yR λφ a w hop=>?_
  obtain⟨z,hr,hall⟩:=fx hz w;exact⟨z.cells.toList,by simp[execOp,ho,Instr.alloc,hr,newVar,newRow],hall φ⟩
 ·cases h
def Gh (n:Nat) (t:TypeId) (v:V) (ans:List Ans):Option Out:=match cellsOf v with|some l=>li l [] λl=>some (As n t l ans)|none=>none
theorem Gg (ho:o.op=.box t x) (h:Gh n t (ev env x) ans=some out):OutOK P o env n L out:=by
 unfold Gh at h;split at h
 ·rename_i l hz
  rw[cD] at h;cases h
  refine yR λφ a w hop=>?_
  exact⟨(a.eval x).cells.toList,by simp[execOp,ho,Instr.box,newVar,newRow],l5 hz (hop x (by simp[ho,Op.operands]))⟩
 ·cases h
end
section
variable {P:Program} {t:TypeId} {env:List V} {ans:List Ans} {n:Nat} {L:Hp} {out:Out} {o:Oper} {φ:Ph}
def rep (k:Nat) (zs:List S):List S:=match zs with|[z]=>List.replicate k z|zs=>(List.range (k*zs.length)).map λi=>zs.getD (i%zs.length) .unk
theorem ec (k:Nat) (zs:List S):(rep k zs).length=k*zs.length:=by unfold rep;split<;>simp
theorem re (k:Nat) (zs:List S) (i:Nat) (h:i<k*zs.length):(rep k zs)[i]? =zs[i%zs.length]? :=by
 have hpos:0<zs.length:=by rcases Z21 zs.length with e|e;·rw[e] at h;omega
                           ·exact e
 have hm:=Nat.mod_lt i hpos;unfold rep;split
 ·simp at h |-;rw[Z43,if_pos h];simp[Nat.mod_one]
 ·rw[Z0t,Z26 h];simp[Z00,hm]
theorem fH {β:Type} (f:Nat->β):Array.map f (Array.range 0)= #[]:=by
 apply Array.eq_empty_of_size_eq_zero;simp
theorem Bu {zs:List S} {zc:List Value} (hz:All2 (Sr φ) zs zc) (k:Nat):All2 (Sr φ) (rep k zs) ((Array.range (k*zc.length)).map (λi=>zc.toArray[i%zc.toArray.size]!)).toList:=by
 have hl:=hz.len
 refine All2.of_get (by rw[ec];simp[hl]) λi a b ha hb=>?_
 have hi:i<k*zs.length:=by
  rcases Z0a i (rep k zs).length with h|h
  ·rwa [ec] at h
  ·simp[Z0b h] at ha
 rw[re k zs i hi] at ha;obtain⟨c,hc,hr⟩:=hz.get ha
 have hi':i<k*zc.length:=by rw[hl];exact hi
 simp only[Array.toList_map,Array.toList_range,Z0t,Z26 hi',Z1j,Z06] at hb;subst hb
 have:i%zs.length<zc.length:=by
  rcases Z0a (i%zs.length) zc.length with h|h
  ·exact h
  ·simp[Z0b h] at hc
 have e:zc.toArray[i%zc.toArray.size]! =c:=by
  have hs:zc.toArray.size=zs.length:=by simp[hl]
  rw[hs,getElem!_pos _ _ (by simpa using this)]
  simpa [this] using hc
 rw[e];exact hr
def yS (P:Program) (n:Nat) (t:TypeId) (l c:V) (ans:List Ans):Option Out:=
 match P.underlying t,l,c with
 |some (.slice e),.s (.int _ zl),.s (.int _ zc)=>
  match P.info? e,dz P e with
  |some inf,some zs=>
   match Nat.beq inf.size zs.length with
   |true=>
    match ans with
    | .idx kl::.idx kc::as_=>some ⟨⟨[],.s (.slc (some (n,0)) kl (some kc)),[(n,some {cells:=rep kc zs,ty:=e,sym:=true,flat:=zs.all bM})],n+1⟩,as_,zl=(kl:Int)/\zc=(kc:Int)/\kl<=kc/\inf.bytes*kc<=281474976710656/\kc<=281474976710656⟩
    | .mk kl::.mk kc::as_=>li (rep kc zs) [] λcs=>some ⟨⟨[],.s (.slc (some (n,0)) kl (some kc)),[(n,some {cells:=cs,ty:=e})],n+1⟩,as_,zl=(kl:Int)/\zc=(kc:Int)/\kl<=kc/\inf.bytes*kc<=281474976710656/\kc<=281474976710656⟩
    |_=>none
   |false=>none
  |_,_=>none
 |_,_,_=>none
theorem tC {w:World} {e:TypeId} {inf:TypeInfo} {zs:List S} (hty:P.underlying t=some (.slice e)) (hi:P.info? e=some inf) (hz:dz P e=some zs) (hsz:inf.size=zs.length) {k1 k2:IntKind} {kl kc:Nat} (hle:kl<=kc) (hb:inf.bytes*kc<=281474976710656) (hk:kc<=281474976710656):
 ∃ xs:List Value,(Instr.makeSlice t (.int k1 (kl:Int)) (.int k2 (kc:Int))).run P w=.ok (.slice (some ⟨w.heap.size,0,none⟩) kl kc) {w with heap:=w.heap.push (.cells xs.toArray e)}/\∀ φ,All2 (Sr φ) (rep kc zs) xs:=by
 obtain⟨z,hzr,hall⟩:=fx hz w
 have hlen:z.cells.size=zs.length:=by rw[<-Z28];exact (hall ⟨λ_=>none,λ_=>none⟩).len
 have w1:IntKind.i64.wrap (kl:Int)=kl:=ae aa aa;have w2:IntKind.i64.wrap (kc:Int)=kc:=ae aa aa;refine⟨((Array.range (kc*z.cells.toList.length)).map (λi=>z.cells.toList.toArray[i%z.cells.toList.toArray.size]!)).toList,?_,λφ=>Bu (hall φ) kc⟩
 have hs:(sizeOf e).run P w=.ok inf.size w:=by simp[sizeOf,typeInfo,hi]
 have ht:(typeInfo e).run P w=.ok inf w:=by simp[typeInfo,hi]
 have c1:((decide ((kc:Int)<0)||decide ((inf.bytes:Int)*(kc:Int)>2^48))||decide ((kl:Int)<0)||decide ((kl:Int)>(kc:Int)))=false:=by
  have h3:(inf.bytes:Int)*(kc:Int)<=281474976710656:=by rw[<-Int.natCast_mul];omega
  have e48:(2:Int)^48=281474976710656:=ac;rw[e48];rw[Bool.eq_false_iff];intro h;simp only[Z1h,decide_eq_true_eq] at h;omega
 unfold Instr.makeSlice;simp only[Z09,run_underlying hty,Z05,asInt,asIntOf,Z0f,ht,w1,w2];simp only[c1,Z0l,if_false,Z0f,Z05,run_askRoom,hs,Z12,Z09]
 have hls:z.cells.toList.length=inf.size:=by rw[Z28,hlen,hsz]
 by_cases h0:kc*inf.size=0
 ·rw[if_pos h0]
  simp only[Z0f,Z05,newRow,Z09,run_newObj,hls];simp[h0,fH]
 ·rw[if_neg h0]
  simp only[Z09,hzr,Z0f,Z05,newRow,run_newObj,hls]
theorem DU {x y:Operand} (ho:o.op=.makeSlice t x y)
 (h:yS P n t (ev env x) (ev env y) ans=some out) (hC:out.C):OutOK P o env n L out:=by
 unfold yS at h;split at h
 ·rename_i e k1 zl k2 zc hty hx hy
  split at h
  ·rename_i inf zs hi hz
   split at h
   ·rename_i hsz
    have hsz:=Z0q hsz;split at h
    ·rename_i kl kc as_
     cases h;obtain⟨rfl,rfl,h3,h4,h5⟩:=hC;refine⟨?_,Z3s _⟩
     refine OpL.fresh (L:=[]) (bl:={cells:=rep kc zs,ty:=e,sym:=true,flat:=zs.all bM}) (by simp[lk]) λφ a w hop _=>?_
     have g1:=hop x (by simp[ho,Op.operands]);have g2:=hop y (by simp[ho,Op.operands]);rw[hx] at g1;rw[hy] at g2;simp only[Vr,Sr] at g1 g2;obtain⟨xs,hr,hall⟩:=tC (w:=w) hty hi hz hsz (k1:=k1) (k2:=k2) h3 h4 h5;refine⟨.slice (some ⟨w.heap.size,0,none⟩) kl kc,{w with heap:=w.heap.push (.cells xs.toArray e)},by simp only[execOp,ho,g1,g2];rw[Z09,hr];rfl,rfl,rfl,rfl,⟨_,rfl⟩,⟨[],xs,[],(0,0),by simp[c_],rfl,hall _,λ_=>rfl,λ_ _ _=>by simp,⟨λ_ _ e=>(by cases e),λ_ e=>(by cases e)⟩⟩,λφ' hn _=>⟨_,kc,hn,rfl,h3,.inr rfl⟩⟩
    ·rename_i kl kc as_
     rw[cD] at h;cases h;obtain⟨rfl,rfl,h3,h4,h5⟩:=hC;refine⟨?_,Z3s _⟩
     refine OpL.fresh (L:=[]) (bl:={cells:=rep kc zs,ty:=e}) (by simp[lk]) λφ a w hop _=>?_
     have g1:=hop x (by simp[ho,Op.operands]);have g2:=hop y (by simp[ho,Op.operands]);rw[hx] at g1;rw[hy] at g2;simp only[Vr,Sr] at g1 g2;obtain⟨xs,hr,hall⟩:=tC (w:=w) hty hi hz hsz (k1:=k1) (k2:=k2) h3 h4 h5;refine⟨.slice (some ⟨w.heap.size,0,none⟩) kl kc,{w with heap:=w.heap.push (.cells xs.toArray e)},by simp only[execOp,ho,g1,g2];rw[Z09,hr];rfl,rfl,rfl,rfl,⟨_,rfl⟩,⟨[],xs,[],(0,0),by simp[c_],rfl,hall _,λ_=>rfl,λ_ _ _=>by simp,⟨λ_ _ e=>(by cases e),λ_ e=>(by cases e)⟩⟩,λφ' hn _=>⟨_,kc,hn,rfl,h3,.inr rfl⟩⟩
    ·cases h
   ·cases h
  ·cases h
 ·cases h
def oU (place:Nat->Option (Nat×Nat)):List S->List (Nat×V)->Option (List S)
 |cs,[]=>some cs
 |cs,(i,v)::t=>
  match place i,cellsOf v with
  |some (off,sz),some l=>match Nat.beq l.length sz&&Nat.ble (off+l.length) cs.length with|true=>oU place (bR cs off l) t|false=>none
  |_,_=>none
theorem oN {α:Type}:∀ (vs:List α) (arr:List α) (off k:Nat),(vs.zipIdx k).foldl (λ(cs:Array α) (x:α×Nat)=>cs.setIfInBounds (off+x.2) x.1) arr.toArray=(bR arr (off+k) vs).toArray
 |[],_,_,_=>rfl
 |v::t,arr,off,k=>by
  simp only[List.zipIdx_cons,Z2s,bR];rw[List.setIfInBounds_toArray,oN t,Z52]
theorem nb {φ:Ph} {place:Nat->Option (Nat×Nat)}:∀ {parts:List (Nat×V)} {vals:List (Nat×Value)} {cs:List S} {arr:List Value} {cs':List S},
 All2 (λ(p:Nat×V) (q:Nat×Value)=>p.1=q.1/\Vr φ p.2 q.2) parts vals->All2 (Sr φ) cs arr->oU place cs parts=some cs'->∃ arr',Instr.fill place arr.toArray vals=some arr'.toArray/\All2 (Sr φ) cs' arr'
 |[],[],cs,arr,cs',_,hc,h=>by simp[oU] at h;subst h;exact⟨arr,rfl,hc⟩
 |(i,v)::ps,(j,y)::qs,cs,arr,cs',hp,hc,h=>by
  obtain⟨⟨hij,hv⟩,hp⟩:=hp;simp only at hij hv;subst hij;simp only[oU] at h;split at h
  ·rename_i off sz l hpl hcl
   split at h
   ·rename_i hchk
    simp only[Z07] at hchk;have e1:=Z0q hchk.1;have e2:=Z1y hchk.2;have hall:=l5 hcl hv;have hl1:=hall.len;have hl2:=hc.len;obtain⟨arr',hf,ha⟩:=nb (place:=place) hp (vK off hc hall) h;refine⟨arr',?_,ha⟩;simp only[Instr.fill,hpl]
    have hs:y.cells.size=sz:=by rw[<-Z28];omega
    have: ¬((decide (y.cells.size≠sz)||decide (off+y.cells.size>arr.toArray.size))=true):=by simp;omega
    rw[if_neg (by simpa using this)];have e3:=oN y.cells.toList arr off 0;rw[Z0p] at e3;rw[<-hf,<-e3];congr 1;rw[<-Array.foldl_toList];simp
   ·cases h
  ·cases h
 |[],_::_,_,_,_,h,_,_=>h.elim
 |_::_,[],_,_,_,h,_,_=>h.elim
def kD (env:List V) (parts:Array (Nat×Operand)):List (Nat×V):=parts.toList.map λ(i,x)=>(i,ev env x)
theorem mZ {φ:Ph} {env:List V} {a:Act}:∀ (l:List (Nat×Operand)),(∀ x∈l.map (·.2),Vr φ (ev env x) (a.eval x))->
 All2 (λ(p:Nat×V) (q:Nat×Value)=>p.1=q.1/\Vr φ p.2 q.2) (l.map λ(i,x)=>(i,ev env x)) (l.map λ(i,x)=>(i,a.eval x))
 |[],_=>trivial
 |(i,x)::t,h=>⟨⟨rfl,h x an⟩,mZ t λy hy=>h y (by simp at hy |-;exact .inr hy)⟩
def iG (P:Program):List Field->Option (List (Nat×Nat))
 |[]=>some []
 |f::t=>match ct P f.type,iG P t with|some sz,some r=>some ((f.offset,sz)::r)|_,_=>none
theorem mi {P:Program} {w:World}:∀ {fs:List Field} {r:List (Nat×Nat)},iG P fs=some r->(fs.mapM λ(f:Field)=>(do pure (f.offset,<-sizeOf f.type):Sem (Nat×Nat))).run P w=.ok r w
 |[],r,h=>by simp[iG] at h;subst h;simp
 |f::t,r,h=>by
  simp only[iG] at h;split at h
  ·rename_i sz r' h1 h2
   cases h;rw[List.mapM_cons];simp only[Z09,aM h1,Z05,Z0f,mi h2]
  ·cases h
def sO (P:Program) (n:Nat) (t:TypeId) (parts:List (Nat×V)) (ans:List Ans):Option Out:=
 match P.underlying t,dz P t with
 |some (.struct fs),some zs=>
  match iG P fs.toList with
  |some pl=>match oU (λi=>pl[i]?) zs parts with|some cs=>lt n (.agg cs) ans True|none=>none
  |none=>none
 |some (.array _ e),some zs=>
  match ct P e with
  |some sz=>match oU (λi=>some (i*sz,sz)) zs parts with|some cs=>lt n (.agg cs) ans True|none=>none
  |none=>none
 |_,_=>none
theorem Ax {parts:Array (Nat×Operand)} (ho:o.op=.build t parts)
 (h:sO P n t (kD env parts) ans=some out):OutOK P o env n L out:=by
 unfold sO at h;split at h
 ·rename_i fs zs hty hz
  split at h
  ·rename_i pl hpl
   split at h
   ·rename_i cs hcs
    refine gb h λφ a w hop=>?_
    obtain⟨z,hzr,hall⟩:=fx hz w;have hp:=mZ (φ:=φ) (env:=env) (a:=a) parts.toList (λx hx=>hop x (by rw[ho];simp only[Op.operands];simpa using hx));obtain⟨arr',hf,ha⟩:=nb hp (hall φ) hcs;refine⟨.agg arr'.toArray,?_,arr',rfl,ha⟩
    have hm:(Array.mapM (λ(f:Field)=>(do pure (f.offset,<-sizeOf f.type):Sem (Nat×Nat))) fs).run P w=.ok pl.toArray w:=by
     rw[Array.mapM_eq_mapM_toList];simp only[Sem.run_map,mi hpl,Z05]
    have e:(parts.map λ(i,x)=>(i,a.eval x)).toList=parts.toList.map λ(i,x)=>(i,a.eval x):=an
    simp only[execOp,ho,Instr.build,Z09,hzr,Z05,run_underlying hty,hm,e]
    have e2:(λ(x:Nat)=>pl.toArray[x]?)=(λ(i:Nat)=>pl[i]?):=by funext i;simp
    have e3:z.cells.toList.toArray=z.cells:=an;rw[e3] at hf;simp only[e2,hf,Z0f,Z05]
   ·cases h
  ·cases h
 ·rename_i len e zs hty hz
  split at h
  ·rename_i sz hsz
   split at h
   ·rename_i cs hcs
    refine gb h λφ a w hop=>?_
    obtain⟨z,hzr,hall⟩:=fx hz w;have hp:=mZ (φ:=φ) (env:=env) (a:=a) parts.toList (λx hx=>hop x (by rw[ho];simp only[Op.operands];simpa using hx));obtain⟨arr',hf,ha⟩:=nb hp (hall φ) hcs;refine⟨.agg arr'.toArray,?_,arr',rfl,ha⟩
    have e1:(parts.map λ(i,x)=>(i,a.eval x)).toList=parts.toList.map λ(i,x)=>(i,a.eval x):=an
    have e3:z.cells.toList.toArray=z.cells:=an;rw[e3] at hf;simp only[execOp,ho,Instr.build,Z09,hzr,Z05,run_underlying hty,aM hsz,e1,hf,Z0f]
   ·cases h
  ·cases h
 ·cases h
def gm (P:Program) (n:Nat) (t:TypeId) (len:Nat) (parts:List (Nat×V)) (ans:List Ans):Option Out:=
 match P.underlying t with
 |some (.slice e)=>
  match ct P e,dz P e with
  |some sz,some zs=>
   match Nat.beq sz zs.length&&Nat.ble (len*sz) 16777216 with
   |true=>
    match oU (λi=>some (i*sz,sz)) (rep len zs) parts with
    |some cs=>li cs [] λcs=>some ⟨⟨[],.s (.slc (some (n,0)) len (some len)),[(n,some {cells:=cs,ty:=e})],n+1⟩,ans,True⟩
    |none=>none
   |false=>none
  |_,_=>none
 |_=>none
theorem pj {len:Nat} {parts:Array (Nat×Operand)} (ho:o.op=.buildSlice t len parts)
 (h:gm P n t len (kD env parts) ans=some out):OutOK P o env n L out:=by
 unfold gm at h;split at h
 ·rename_i e hty
  split at h
  ·rename_i sz zs hsz hz
   split at h
   ·rename_i hchk
    simp only[Z07] at hchk;have k1:=Z0q hchk.1;have k2:=Z1y hchk.2;split at h
    ·rename_i cs hcs
     rw[cD] at h;cases h;refine⟨?_,Z3s _⟩
     refine OpL.fresh (L:=[]) (bl:={cells:=cs,ty:=e}) (by simp[lk]) λφ a w hop _=>?_
     obtain⟨z,hzr,hall⟩:=fx hz w;have hp:=mZ (φ:=φ) (env:=env) (a:=a) parts.toList (λx hx=>hop x (by rw[ho];simp only[Op.operands];simpa using hx))
     have hlen:z.cells.size=sz:=by rw[<-Z28,(hall φ).len,k1]
     obtain⟨arr',hf,ha⟩:=nb hp (Bu (hall φ) len) hcs;refine⟨.slice (some ⟨w.heap.size,0,none⟩) len len,{w with heap:=w.heap.push (.cells arr'.toArray e)},?_,rfl,rfl,rfl,⟨_,rfl⟩,vd rfl ha,λφ' hn _=>⟨_,len,hn,rfl,Z02 _,.inr rfl⟩⟩
     have e1:(parts.map λ(i,x)=>(i,a.eval x)).toList=parts.toList.map λ(i,x)=>(i,a.eval x):=an
     have k3: ¬(len*sz>2^24):=aa
     have hf':Instr.fill (λi=>some (i*sz,sz)) ((Array.range (len*sz)).map (λi=>z.cells[i%z.cells.size]!)) (parts.toList.map λ(i,x)=>(i,a.eval x))=some arr'.toArray:=by
      have e:((Array.range (len*sz)).map (λi=>z.cells[i%z.cells.size]!))=((Array.range (len*z.cells.toList.length)).map (λi=>z.cells.toList.toArray[i%z.cells.toList.toArray.size]!)).toList.toArray:=by
       rw[show z.cells.toList.toArray=z.cells by simp,show z.cells.toList.length=sz by simp[hlen]]
      rw[e];exact hf
     by_cases h0:len*sz=0
     ·have h0':((Array.range (len*sz)).map (λi=>z.cells[i%z.cells.size]!))=((Array.range (len*sz)).map (λi=>(#[]:Array Value)[i%(#[]:Array Value).size]!)):=by rw[h0,fH,fH]
      rw[h0'] at hf';simp only[execOp,ho,Instr.buildSlice,Z09,run_underlying hty,Z05,aM hsz,if_neg k3,Z0f,e1];rw[if_pos h0];simp only[Z0f,Z05,hf',newRow,Z09,run_newObj]
     ·simp only[execOp,ho,Instr.buildSlice,Z09,run_underlying hty,Z05,aM hsz,if_neg k3,Z0f,e1]
      rw[if_neg h0];simp only[Z09,hzr,Z0f,Z05,hf',newRow,run_newObj]
    ·cases h
   ·cases h
  ·cases h
 ·cases h
def iW (x:Option V) (dflt top:Nat) (ans:List Ans):Option (Nat×List Ans×Prop):=
 match x with
 |none=>some (dflt,ans,True)
 |some (.s (.int _ z))=>match ans with| .idx k::as_=>some (k,as_,z=(k:Int)/\k<=top)|_=>none
 |_=>none
theorem o9 {w:World} {x:Option V} {y:Option Value} (hxy:match x,y with|none,none=>True|some v,some u=>Vr φ v u|_,_=>False) {dflt top:Nat} {k:Nat} {as_:List Ans} {C:Prop} {code:BoundsCode}
 (h:iW x dflt top ans=some (k,as_,C)) (hC:C):(match y with|some v=>Instr.sliceBound v top code|none=>pure dflt).run P w=.ok k w/\(x.isSome=true->k<=top):=by
 unfold iW at h;split at h
 ·cases y with
  |none=>cases h;exact⟨rfl,an⟩
  |some v=>exact hxy.elim
 ·cases y with
  |none=>exact hxy.elim
  |some v=>
   simp only[Vr,Sr] at hxy;split at h
   ·cases h
    obtain⟨rfl,h2⟩:=hC;rename_i kk _;have hb:(0:Int)<=(k:Int)/\(k:Int)<=(top:Int):=aa;exact⟨by simp only[Instr.sliceBound,hxy,asIntOf,Z09,Z0f,Z05];rw[if_pos hb];simp,λ_=>h2⟩
   ·cases h
 ·cases h
def qD (n:Nat) (l:List UInt8) (lo hi:Option V) (ans:List Ans):Option Out:=
 match iW hi l.length l.length ans with
 |some (h,as_,C)=>
  match iW lo 0 h as_ with
  |some (k,as',D)=>
   match hi,lo with
   |none,none=>some ⟨⟨[],.s (.str l),[],n⟩,as',C/\D⟩
   |none,some _=>some ⟨⟨[],.s (.str (l.drop k)),[],n⟩,as',C/\D⟩
   |some _,none=>some ⟨⟨[],.s (.str (l.take h)),[],n⟩,as',C/\D⟩
   |some _,some _=>some ⟨⟨[],.s (.str ((l.take h).drop k)),[],n⟩,as',C/\D⟩
  |none=>none
 |none=>none
def AO (cap:Option Nat) (len:Nat):Nat:=match cap with|some c=>c|none=>len
def Hh (cap:Option Nat) (k:Nat):Option Nat:=match cap with|some c=>some (c-k)|none=>none
def Ca (cap:Option Nat) (k h:Nat):Prop:=match cap with|some c=>k<c|none=>k<h
def vp (n i o len:Nat) (cap:Option Nat) (sz:Nat) (lo hi:Option V) (ans:List Ans):Option Out:=
 match iW hi len (AO cap len) ans with
 |some (h,as_,C)=>
  match iW lo 0 h as_ with
  |some (k,as',D)=>
   match lo with
   |none=>some ⟨⟨[],.s (.slc (some (i,o)) h cap),[],n⟩,as',C/\D⟩
   |some _=>
    match as' with
    | .idx m::as''=>some ⟨⟨[],.s (.slc (some (i,bJ o (bG k sz))) m (Hh cap k)),[],n⟩,as'',(C/\D)/\h-k=m/\Ca cap k h⟩
    |_=>none
  |none=>none
 |none=>none
def pi (P:Program) (n:Nat) (t:TypeId) (x:V) (lo hi mx:Option V) (ans:List Ans):Option Out:=
 match mx with
 |some _=>none
 |none=>
  match P.underlying t,x with
  |some .string,.s (.str l)=>qD n l lo hi ans
  |some (.slice e),.s (.slc (some (i,o)) len cap)=>match ct P e with|some sz=>vp n i o len cap sz lo hi ans|none=>none
  |some (.slice e),.s (.slc none len cap)=>match lo,hi,ct P e with|none,none,some _=>some ⟨⟨[],.s (.slc none len cap),[],n⟩,ans,True⟩|_,_,_=>none
  |_,_=>none
theorem EZ {a:Act} (x:Option Operand) (h:∀ y∈x.toList,Vr φ (ev env y) (a.eval y)):match x.map (ev env),x.map a.eval with|none,none=>True|some v,some u=>Vr φ v u|_,_=>False:=by
 cases x with
 |none=>trivial
 |some y=>exact h y an
theorem Ar {x:Operand} {lo hi mx:Option Operand} (ho:o.op=.slice t x lo hi mx)
 (h:pi P n t (ev env x) (lo.map (ev env)) (hi.map (ev env)) (mx.map (ev env)) ans=some out) (hC:out.C):OutOK P o env n L out:=by
 have hmx:mx=none:=by
  unfold pi at h
  cases mx with
  |none=>rfl
  |some m=>simp at h
 subst hmx
 have lower:∀ (d:Option Out),d=some out->True:=λ_ _=>trivial
 have light:∀ (v:V) (as_:List Ans) (C:Prop),out=⟨⟨[],v,[],n⟩,as_,C⟩->(∀ φ (a:Act) (w:World),(∀ y∈o.op.operands,Vr φ (ev env y) (a.eval y))->∃ y,(execOp a.eval o).run P w=.ok (.value y) w/\Vr φ v y)->OutOK P o env n L out:=by
  intro v as_ C e hh;subst e;exact⟨OpL.light λφ a w hx _=>hh φ a w hx,Z02 _⟩
 have opx:x∈o.op.operands:=by simp[ho,Op.operands]
 have oplo:∀ y∈lo.toList,y∈o.op.operands:=λy hy=>by rw[ho];simp[Op.operands];simp at hy;simp[hy]
 have ophi:∀ y∈hi.toList,y∈o.op.operands:=λy hy=>by rw[ho];simp[Op.operands];simp at hy;simp[hy]
 unfold pi at h;simp only[Z2g] at h;split at h
 · --a string
   rename_i l hty hx;unfold qD at h;split at h
   ·rename_i hb as_ C hhi
    split at h
    ·rename_i k as' D hlo
     have key:C->D->∀ φ (a:Act) (w:World),(∀ y∈o.op.operands,Vr φ (ev env y) (a.eval y))->(execOp a.eval o).run P w=.ok (.value (.string ⟨((l.take hb).drop k).toArray⟩)) w:=by
      intro c1 c2 φ a w hop;have g:=hop x opx;rw[hx] at g;simp only[Vr,Sr] at g;have r1:=(o9 (P:=P) (w:=w) (code:=.sliceAlen) (EZ hi λy hy=>hop y (ophi y hy)) hhi c1).1;have r2:=(o9 (P:=P) (w:=w) (code:=.sliceB) (EZ lo λy hy=>hop y (oplo y hy)) hlo c2).1;have es:(⟨l.toArray⟩:ByteArray).size=l.length:=rfl
      have ex:(⟨l.toArray⟩:ByteArray).extract k hb=⟨((l.take hb).drop k).toArray⟩:=by
       apply ByteArray.ext;simp[Z5p];rw[List.drop_take]
      have hsb:(Instr.sliceBounds false l.length l.length (lo.map a.eval) (hi.map a.eval) none).run P w=.ok (k,hb,l.length) w:=by
       unfold Instr.sliceBounds
       cases hi<;>cases lo<;>simp_all
      simp only[execOp,ho,g,Z2g,Instr.sliceAt,Instr.slice,Z09,run_underlying hty,Z05,es,Z2b,Z0l,if_false,Z0f,hsb,ex]
     have kle:D->lo=none->k=0:=by
      intro _ e;subst e;simp[iW] at hlo;exact hlo.1.symm
     have hle:C->hi=none->hb=l.length:=by
      intro _ e;subst e;simp[iW] at hhi;exact hhi.1.symm
     cases hi with
     |none=>
      cases lo with
      |none=>
       simp at h;subst h
       refine light _ _ _ rfl λφ a w hop=>⟨_,key hC.1 hC.2 φ a w hop,?_⟩
       rw[kle hC.2 rfl,hle hC.1 rfl];simp[Vr,Sr]
      |some _=>
       simp at h;subst h
       refine light _ _ _ rfl λφ a w hop=>⟨_,key hC.1 hC.2 φ a w hop,?_⟩
       rw[hle hC.1 rfl];simp[Vr,Sr]
     |some _=>
      cases lo with
      |none=>
       simp at h;subst h
       refine light _ _ _ rfl λφ a w hop=>⟨_,key hC.1 hC.2 φ a w hop,?_⟩
       rw[kle hC.2 rfl];simp[Vr,Sr]
      |some _=>
       simp at h;subst h
       exact light _ _ _ rfl λφ a w hop=>⟨_,key hC.1 hC.2 φ a w hop,rfl⟩
    ·cases h
   ·cases h
 · --a slice
   rename_i e i off len cap hty hx;split at h
   ·rename_i sz hsz
    unfold vp at h;split at h
    ·rename_i hb as_ C hhi
     split at h
     ·rename_i k as' D hlo
      have key:∀ (c:Nat),C->D->(cap=none\/cap=some c)->len<=c->∀ φ (a:Act) (w:World) (b off:Nat),(∀ y∈o.op.operands,Vr φ (ev env y) (a.eval y))->a.eval x=.slice (some ⟨b,off,none⟩) len c->
       (execOp a.eval o).run P w=.ok (.value (.slice (if c=k then some ⟨b,off,none⟩ else some ⟨b,off+k*sz,none⟩) (hb-k) (c-k))) w/\hb<=c:=by
       intro c c1 c2 hcap hle φ a w b off hop g
       have hhb:hb<=c/\(match hi.map a.eval with|some v=>Instr.sliceBound v c .sliceAcap|none=>pure len).run P w=.ok hb w:=by
        have q:=EZ (φ:=φ) (env:=env) (a:=a) hi λy hy=>hop y (ophi y hy)
        cases hi with
        |none=>simp[iW] at hhi;obtain⟨rfl,_,_⟩:=hhi;exact⟨hle,rfl⟩
        |some yh=>
         simp only[Z1j] at q hhi |-;unfold iW at hhi;split at hhi
         ·rename_i he;cases he
         ·rename_i kd z he
          simp only[Z06] at he;rw[he] at q;simp only[Vr,Sr] at q;split at hhi
          ·simp only[Z06,Z0j] at hhi
           obtain⟨rfl,rfl,rfl⟩:=hhi;obtain⟨rfl,h2⟩:=c1
           have h3:AO cap len<=c:=by rcases hcap with rfl|rfl<;>simp[AO,hle]
           refine⟨aa,?_⟩;simp only[Instr.sliceBound,q,asIntOf,Z09,Z0f,Z05];rw[if_pos aa];simp
          ·cases hhi
         ·cases hhi
       have r2:=(o9 (P:=P) (w:=w) (code:=.sliceB) (EZ lo λy hy=>hop y (oplo y hy)) hlo c2).1
       have hsb:(Instr.sliceBounds true len c (lo.map a.eval) (hi.map a.eval) none).run P w=.ok (k,hb,c) w:=by
        have q:=hhb.2;unfold Instr.sliceBounds
        cases hi<;>cases lo<;>simp_all
       refine⟨?_,hhb.1⟩;simp only[execOp,ho,g,Z2g,Instr.sliceAt,Instr.slice,Z09,run_underlying hty,Z05,hsb,aM hsz,Z1j,bv,Z0f]
      have kle:D->lo=none->k=0:=by
       intro _ e;subst e;simp[iW] at hlo;exact hlo.1.symm
      cases lo with
      |none=>
       simp at h;subst h
       refine light _ _ _ rfl λφ a w hop=>?_
       have g:=hop x opx;rw[hx] at g;obtain⟨b,c,hb1,hv,hlc,hcc⟩:=g;obtain⟨r1,r2⟩:=key c hC.1 hC.2 hcc hlc φ a w b.1 (off+b.2) hop hv;have hk:=kle hC.2 rfl;subst hk;refine⟨_,r1,?_⟩
       have:(if c=0 then some (⟨b.1,off+b.2,none⟩:Addr) else some ⟨b.1,off+b.2+0*sz,none⟩)=some ⟨b.1,off+b.2,none⟩:=by split<;>simp
       rw[this];exact⟨b,c,hb1,an,r2,hcc⟩
      |some lv=>
       simp only[Z1j] at h;split at h
       ·rename_i m as''
        simp only[Z06] at h;subst h
        refine light _ _ _ rfl λφ a w hop=>?_
        have g:=hop x opx;rw[hx] at g;obtain⟨b,c,hb1,hv,hlc,hcc⟩:=g;obtain⟨⟨c1,c2⟩,c3,c4⟩:=hC;obtain⟨r1,r2⟩:=key c c1 c2 hcc hlc φ a w b.1 (off+b.2) hop hv;refine⟨_,r1,?_⟩
        have hne: ¬c=k:=by
         rcases hcc with rfl|rfl
         ·simp only[Ca] at c4;omega
         ·simp only[Ca] at c4;omega
        rw[if_neg hne];refine⟨b,c-k,hb1,by rw[am,aB,c3,Nat.add_right_comm],aa,?_⟩
        rcases hcc with rfl|rfl
        ·exact .inl rfl
        ·exact .inr rfl
       ·cases h
     ·cases h
    ·cases h
   ·cases h
 · --the nil slice,whole
   rename_i e len cap hty hx
   cases hsz:ct P e with
   |none=>cases lo<;>cases hi<;>simp[hsz] at h
   |some sz=>
    cases lo<;>cases hi<;>simp[hsz] at h
    subst h
    refine light _ _ _ rfl λφ a w hop=>?_
    have g:=hop x opx;rw[hx] at g;obtain⟨rfl,rfl,hv⟩:=g;refine⟨.slice none 0 0,?_,rfl,rfl,rfl⟩
    have hsb:(Instr.sliceBounds true 0 0 none none none).run P w=.ok (0,0,0) w:=by simp[Instr.sliceBounds]
    simp only[execOp,ho,hv,Z2g,Instr.sliceAt,Instr.slice,Z09,run_underlying hty,Z05,hsb,aM hsz,Z0f,if_true,Z3r]
 ·cases h
end
end Ab
end Go.Proofs.YtegjgpldfgjoiaaGreatDoor
