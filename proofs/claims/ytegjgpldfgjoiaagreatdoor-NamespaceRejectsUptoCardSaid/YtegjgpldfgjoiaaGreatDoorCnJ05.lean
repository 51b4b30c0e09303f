import Derived.Test.YtegjgpldfgjoiaaGreatDoorCnJ04
set_option linter.all false
namespace Go.Proofs.YtegjgpldfgjoiaaGreatDoor
namespace Ab
open Go
section
variable {φ:Ph} {l:List S} {P:Program} {bl:Bl}
theorem OpL.light {o:Oper} {env:List V} {n:Nat} {L:Hp} {v:V}
 (h:∀ φ (a:Act) (w:World),(∀ x∈o.op.operands,Vr φ (ev env x) (a.eval x))->Good φ L w->∃ y,(execOp a.eval o).run P w=.ok (.value y) w/\Vr φ v y):OpL P o env n L v n L:=by
 intro φ a w Q hx hg _;obtain⟨y,hr,hv⟩:=h φ a w hx hg;unfold Oper.wp;rw[hr,Z3q];exact⟨φ,y,rfl,hv,hg,Stp.refl _ _ _,λ_ _=>rfl⟩
theorem OpL.fresh {o:Oper} {env:List V} {n:Nat} {L:Hp} {v:V} (hn:lk L n=none)
 (h:∀ φ (a:Act) (w:World),(∀ x∈o.op.operands,Vr φ (ev env x) (a.eval x))->Good φ L w->
   ∃ y w',(execOp a.eval o).run P w=.ok (.value y) w'/\w'.os=w.os/\w'.tape=w.tape/\w'.output=w.output/\(∃ ob,w'.heap=w.heap.push ob)/\BlAt φ w' (w.heap.size,0) bl/\
     ∀ φ':Ph,φ' n=some (w.heap.size,0)->φ.le φ'->Vr φ' v y):OpL P o env n L v (n+1) (put L n (some bl)):=by
 intro φ a w Q hx hg hf;obtain⟨y,w',hr,h1,h2,h3,⟨ob,h4⟩,h5,h6⟩:=h φ a w hx hg;have hfn:=hf n (Z02 _) aa
 let φ':Ph:=⟨λi=>if i=n then some (w.heap.size,0) else φ i,φ.z⟩
 have hle:φ.le φ':=by
  refine⟨λi b hb=>?_,λ_ _ h=>h⟩
  grind
 have hsz:w.heap.size<=w'.heap.size:=ae
 have hkeep:∀ b,b<w.heap.size->w'.heap[b]? =w.heap[b]? :=by
  grind
 unfold Oper.wp;rw[hr,Z3q];refine⟨φ',y,rfl,h6 φ' ae hle,⟨?_,?_,λb l hb=>?_,hg.gz⟩,⟨h1,h2,h3,hsz,λb hb _=>hkeep b hb,?_,λ_ _ h=>h,λ_ _ h=> .inl h⟩,?_⟩
 rotate_left 2
 ·have hlt:=hg.fzlt hb
  refine⟨by rw[hkeep b hlt];exact (hg.fz b l hb).1,?_⟩;rintro⟨i,bl,c,hi,hc,hcb,hro⟩;rw[aC] at hi;split at hi
  ·grind
  ·rename_i e
   simp only[φ',if_neg (Z48 e)] at hc;exact (hg.fz b l hb).2 ⟨i,bl,c,hi,hc,hcb,hro⟩
 rotate_left 2
 ·intro i bi hi
  rw[aC] at hi;split at hi
  ·rename_i e;subst e;cases hi
   exact⟨(w.heap.size,0),ae,h5.mono hle rfl⟩
  ·obtain⟨b,hb,hat⟩:=hg.hr i bi hi
   exact⟨b,hle i b hb,hat.mono hle (hkeep b.1 hat.lt)⟩
 ·intro i j bi bj b b' hi hj hb hb' hbb
  rw[aC] at hi hj
  by_cases ei:n=i<;>by_cases ej:n=j
  ·grind
  ·rw[if_neg ej] at hj
   obtain⟨c,hc,hat⟩:=hg.hr j bj hj
   grind [hat.lt]
  ·rw[if_neg ei] at hi
   obtain⟨c,hc,hat⟩:=hg.hr i bi hi
   grind [hat.lt]
  all_goals grind [hg.inj]
 all_goals grind [aC]
def cellsOf:V->Option (List S)
 | .s x=>match Az x with|false=>some [x]|true=>none
 | .agg l=>some l
 |_=>none
theorem rq {v:Value} (h:gu v=true):v.cells= #[v]:=by cases v<;>first|rfl|cases h
theorem nv {v:V} {y:Value} (h:cellsOf v=some l) (hv:Vr φ v y):All2 (Sr φ) l y.cells.toList:=by
 cases v<;>simp only[cellsOf,Z06,reduceCtorEq] at h
 ·split at h
  ·rename_i hj
   cases h;have:=Sr.cell hv hj;rw[rq this];exact⟨hv,trivial⟩
  ·cases h
 subst h
 ·obtain⟨xs,rfl,hall⟩:=hv
  simpa [Value.cells] using hall
def toS:Value->Option S
 | .bool b=>some (.bool b)
 | .int k n=>some (.int k n)
 | .string s=>some (.str s.data.toList)
 | .pointer none=>some (.ptr none)
 | .slice none 0 0=>some (.slc none 0 (some 0))
 | .map none=>some (.map none)
 | .agg _=>none
 | .tuple _=>none
 |_=>some .unk
theorem IJ {v:Value} {x:S} (h:toS v=some x):Sr φ x v:=by
 unfold toS at h
 split at h<;>simp only[Z06,reduceCtorEq] at h
 all_goals subst h
 all_goals first|rfl|exact⟨rfl,rfl,rfl⟩|skip
 ·rename_i h6 h7
  cases v<;>first|rfl|exact (h6 _ rfl).elim|exact (h7 _ rfl).elim
def Bs:List Value->Option (List S)
 |[]=>some []
 |v::t=>match toS v,Bs t with|some x,some l=>some (x::l)|_,_=>none
theorem xM {φ:Ph}:∀ {vs:List Value} {l:List S},Bs vs=some l->All2 (Sr φ) l vs
 |[],l,h=>by simp[Bs] at h;subst h;trivial
 |v::t,l,h=>by
  simp only[Bs] at h;split at h
  ·rename_i x l' h1 h2
   cases h;exact⟨IJ h1,xM h2⟩
  ·cases h
def dW (P:Program) (t:TypeId):Option (List S):=
 match P.info? t with
 |some i=>match i.zero with|some v=>Bs v.cells.toList|none=>none
 |none=>none
theorem fZ {t:TypeId} (h:dW P t=some l) (w:World):∃ z,(zeroValue t).run P w=.ok z w/\∀ φ,All2 (Sr φ) l z.cells.toList:=by
 unfold dW at h;split at h
 ·rename_i i hi
  split at h
  ·rename_i v hv
   exact⟨v,by simp[zeroValue,typeInfo,hi,hv],λφ=>xM h⟩
  ·cases h
 ·cases h
def Cx (n:Nat) (ty:TypeId) (l:List S) (ans:List Ans):Out:=⟨⟨[],.s (.ptr (some (n,0))),[(n,some {cells:=l,ty})],n+1⟩,ans,True⟩
theorem xe {w w':World} {xs:List Value} {ty:TypeId} (hw:w'.heap=w.heap.push (.cells xs.toArray ty)) (h:All2 (Sr φ) l xs):BlAt φ w' (w.heap.size,0) {cells:=l,ty}:=by
 refine⟨[],xs,[],(0,0),by rw[hw];simp[di],rfl,by simpa [Bl.ph] using h,λ_=>rfl,λ_ o _=>by simp,⟨λg z (e:(none:Option (Nat×Nat))=some (g,z))=>(by cases e),λg (e:(none:Option Nat)=some g)=>(by cases e)⟩⟩
def bW {α:Type} (arr:List α):Nat->List α->List α
 |_,[]=>arr
 |o,v::t=>bW (arr.set o v) (o+1) t
theorem jv {α:Type}:∀ (vs:List α) (arr:List α) (o:Nat),(bW arr o vs).length=arr.length
 |[],_,_=>rfl
 |v::t,arr,o=>by simp only[bW];rw[jv t];simp
theorem xR {φ:Ph}:∀ {l:List S} {vs:List Value} {cs:List S} {arr:List Value} (o:Nat),All2 (Sr φ) cs arr->All2 (Sr φ) l vs->All2 (Sr φ) (bW cs o l) (bW arr o vs)
 |[],[],_,_,_,h,_=>h
 |_::_,_::_,_,_,o,h,h'=>xR (o+1) (h.set h'.1) h'.2
 |[],_::_,_,_,_,_,h=>h.elim
 |_::_,[],_,_,_,_,h=>h.elim
theorem jw {α:Type}:∀ (vs:List α) (arr rest:List α) (o:Nat),o+vs.length<=arr.length->bW (arr++rest) o vs=bW arr o vs++rest
 |[],_,_,_,_=>rfl
 |v::t,arr,rest,o,h=>by
  simp only[bW];rw[List.set_append_left _ _ ae,jw t _ _ _ ae]
theorem ly {α:Type}:∀ (vs:List α) (pre l:List α) (o k:Nat),pre.length=k->bW (pre++l) (o+k) vs=pre++bW l o vs
 |[],_,_,_,_,_=>rfl
 |v::t,pre,l,o,k,h=>by
  simp only[bW];rw[Z4y _ _ aa,show o+k+1=(o+1)+k by omega,ly t pre _ _ k h,show o+k-pre.length=o by omega]
def World.withBlock (w:World) (b:Nat) (ob:Obj):World:={w with heap:=w.heap.setIfInBounds b ob}
theorem qP (w:World) (b:Nat) (ob:Obj) (h:b<w.heap.size):(World.withBlock w b ob).heap[b]? =some ob:=by simp[World.withBlock,h]
theorem qT {w:World} {b o:Nat} {arr:List Value} {ty:TypeId} {fr:Nat×Nat} (hb:w.heap[b]? =some (.cells arr.toArray ty fr)) (v:Value):
 w.setCell ⟨b,o,none⟩ v=World.withBlock w b (.cells (arr.set o v).toArray ty fr):=by
 have hlt:b<w.heap.size:=by
  grind
 unfold World.setCell World.withBlock;congr 1
 grind
theorem eC {P:Program} {b o:Nat} {ty:TypeId} {fr:Nat×Nat}:∀ (vs:List Value) (i:Nat) (w:World) (arr:List Value),w.heap[b]? =some (.cells arr.toArray ty fr)->
 (∀ v∈vs,gu v=true)->o+i+vs.length<=arr.length->(∀ x,x<arr.length->(fr.1<=x&&x<fr.2)=false)->
 ∃ w',(storeCells ⟨b,o,none⟩ vs i).run P w=.ok () w'/\w'.os=w.os/\w'.tape=w.tape/\w'.output=w.output/\w'.heap.size=w.heap.size/\w'.heap[b]? =some (.cells (bW arr (o+i) vs).toArray ty fr)/\∀ c,c≠b->w'.heap[c]? =w.heap[c]?
 |[],i,w,arr,hb,_,_,_=>⟨w,by simp[storeCells],rfl,rfl,rfl,rfl,hb,λ_ _=>rfl⟩
 |v::vs,i,w,arr,hb,hc,hl,hfr=>by
  have hlt:b<w.heap.size:=by
   grind
  have hol:o+i<arr.length:=ae
  have h1:v.oneCell'=true:=by
   have:=hc v (.head _)
   cases v<;>first|rfl|cases this
  have hcell:w.cell? ⟨b,o+i,none⟩=some arr[o+i]:=by simp[World.cell?,hb,hol]
  have hfz:w.frozen? ⟨b,o+i,none⟩=false:=by simp only[World.frozen?,hb];exact hfr _ hol
  obtain⟨w',hr,g1,g2,g3,g4,g5,g6⟩:=eC (P:=P) (b:=b) (o:=o) vs (i+1) (World.withBlock w b (.cells (arr.set (o+i) v).toArray ty fr)) (arr.set (o+i) v) (qP _ _ _ hlt)
   (λx hx=>hc x (.tail _ hx)) ae ae
  refine⟨w',?_,g1,g2,g3,?_,?_,?_⟩
  ·simp only[storeCells,bw,Z09]
   rw[run_store P w _ v _ h1];simp only[hcell,hfz,Z0l,if_false,Z05]
   grind [qT]
  all_goals grind [World.withBlock,bW]
def bZ:S->Bool
 | .ptr (some _)=>false
 | .slc (some _) _ _=>false
 | .sla _ _ _=>false
 | .map (some _)=>false
 | .itr _ _=>false
 | .clo _ _=>false
 | .opq _ _ _=>false
 | .junk=>false
 | .row _ _ _=>false
 |_=>true
theorem An {ψ:Ph} (hz:∀ b l,φ.z b=some l->ψ.z b=some l) {x:S} {v:Value} (h:bZ x=true) (hs:Sr φ x v):Sr ψ x v:=by
 cases x with
 |unk|bool|int|str|emp|emq|fn|gp|cst=>exact hs
 |frz=>exact Pr.mono hz hs
 |fpt cs j=>obtain⟨b,o,vs,h1,hv,hx⟩:=hs;exact⟨b,o,vs,hz _ _ h1,hv,λi x hi=>by obtain⟨y,hy,hp⟩:=hx i x hi;exact⟨y,hy,hp.mono hz⟩⟩
 |row=>cases h
 |sla i g n=>cases h
 |map a=>rcases a with _|i<;>first|exact hs|cases h
 |itr r m=>cases h
 |clo f ps=>cases h
 |opq k t K=>cases h
 |junk=>cases h
 |ptr a=>rcases a with _|⟨i,o⟩<;>first|exact hs|cases h
 |slc a n c=>rcases a with _|⟨i,o⟩<;>first|exact hs|cases h
theorem il {φ ψ:Ph} (hz:∀ b l,φ.z b=some l->ψ.z b=some l):∀ {l:List S} {vs:List Value},l.all bZ=true->All2 (Sr φ) l vs->All2 (Sr ψ) l vs
 |[],[],_,_=>trivial
 |_::_,_::_,h,h'=>by
  simp only[Z1b,Z07] at h;exact⟨An hz h.1 h'.1,il hz h.2 h'.2⟩
 |[],_::_,_,h=>h.elim
 |_::_,[],_,h=>h.elim
def nJ (x:S):Bool:=match Az x with|true=>false|false=>true
def cf (bl:Bl) (l:List S):Bool:=match bl.flat with|true=>l.all bZ|false=>l.all nJ
theorem m7 (h:cf bl l=true) {j:Nat} {s:S} (hs:l[j]? =some s):Az s=false:=by
 have hm:s∈l:=Z4i hs;unfold cf at h;split at h
 ·have:=Z0i.1 h s hm
  cases s<;>first|rfl|cases this
 all_goals grind [nJ]
theorem pz {w w':World} {i:Nat} {b:Nat×Nat} (hkd:bl.kind=none) {o:Nat} {vs:List Value} {cs':List S} (hg:Good φ [(i,some bl)] w) (hb:φ i=some b) (hro:bl.ro=false) (hfit:cf bl l=true)
 (hl:All2 (Sr φ) l vs) (hle:o+l.length<=bl.cells.length) (hcs:cs'=bW bl.cells o l)
 (hw:∃ pre xs rest fr,w.heap[b.1]? =some (.cells (pre++(xs++rest)).toArray bl.ty fr)/\pre.length=b.2/\All2 (Sr (bl.ph φ)) bl.cells xs/\(bl.more=false->rest=[])/\(∀ x,x<(pre++(xs++rest)).length->(fr.1<=x&&x<fr.2)=false)/\((∀ g z,bl.gh=some (g,z)->∃ k,φ g=some (k,0)/\k*z<=(xs++rest).length)/\(∀ g,bl.abs=some g->b=(g,0)))/\
   w'.heap[b.1]? =some (.cells (bW (pre++(xs++rest)) (o+b.2) vs).toArray bl.ty fr))
 (h1:w'.os=w.os) (h2:w'.tape=w.tape) (h3:w'.output=w.output) (h4:w'.heap.size=w.heap.size) (h6:∀ c,c≠b.1->w'.heap[c]? =w.heap[c]?):
 Good φ [(i,some {bl with cells:=cs'})] w'/\Stp φ [(i,some bl)] w φ [(i,some {bl with cells:=cs'})] w':=by
 obtain⟨pre,xs,rest,fr,e1,hp,e2,e3,e4,e6,e5⟩:=hw;subst hcs;have hlen:=e2.len;have hvl:=hl.len
 have at':BlAt φ w' b {bl with cells:=bW bl.cells o l}:=by
  refine⟨pre,bW xs o vs,rest,fr,?_,hp,?_,e3,λ_ x hx=>e4 x (by simpa [jv] using hx),λg z e=>by simpa [jv] using e6.1 g z e,e6.2⟩
  ·grind [di,ly,jw]
  ·show All2 (Sr (bl.ph φ)) _ _
   refine xR o e2 ?_;unfold cf at hfit;unfold Bl.ph
   cases hf:bl.flat with
   |false=>grind
   |true=>grind [il]
 have one:∀ (c:Bl) j bj,lk [(i,some c)] j=some bj->j=i/\bj=c:=by
  grind [aY,lk]
 refine⟨⟨?_,?_,λc l hc=>?_,hg.gz⟩,⟨h1,h2,h3,aa,?_,?_,λ_ _ h=>h,λ_ _ h=> .inl h⟩⟩
 rotate_left 2
 ·have hn:=(hg.fz c l hc).2
  have hne:c≠b.1:=λe=>hn ⟨i,bl,b,by simp[lk],hb,e.symm,hro⟩
  refine⟨by rw[h6 c hne];exact (hg.fz c l hc).1,?_⟩;rintro⟨j,bj,d,hj,hd,hdc,_⟩
  grind
 rotate_left 2
 ·grind
 ·grind
 ·intro c _ hn
  exact h6 c λe=>hn ⟨i,bl,b,by simp[lk],hb,e.symm,hro⟩
 all_goals grind [lk]
end
section
variable {P:Program} {o:Oper} {env:List V} {n:Nat} {L:Hp} {ans:List Ans} {out:Out} {t:TypeId} {x:Operand}
def rv {α β:Type}:List α->List α->(List α->β)->β
 |[],out,k=>k out
 |x::t,out,k=>rv t (x::out) k
def l6 {α β:Type}:List α->List α->(List α->β)->β
 |[],acc,k=>rv acc [] k
 |x::t,acc,k=>l6 t (x::acc) k
theorem Aa {α β:Type} (k:List α->β):∀ (l out:List α),rv l out k=k (l.reverse++out)
 |[],_=>rfl
 |x::t,out=>by simp only[rv];rw[Aa k t];simp
theorem AH {α β:Type} (k:List α->β):∀ (l acc:List α),l6 l acc k=k (acc.reverse++l)
 |[],acc=>by simp only[l6];rw[Aa]
 |x::t,acc=>by simp only[l6];rw[AH k t];simp
theorem cO {α β:Type} (k:List α->β) (l:List α):l6 l [] k=k l:=by rw[AH];rfl
def jg {β:Type} (v:V) (k:V->β):β:=
 match v with
 | .any=>k .any
 | .undef=>k .undef
 | .s x=>k (.s x)
 | .agg l=>l6 l [] λl=>k (.agg l)
 | .tup l=>l6 l [] λl=>k (.tup l)
 | .w i g sz j m=>k (.w i g sz j m)
theorem fh {β:Type} (v:V) (k:V->β):jg v k=k v:=by cases v<;>simp only[jg,cO]
def lt (n:Nat) (v:V) (ans:List Ans) (C:Prop):Option Out:=jg v λv=>some ⟨⟨[],v,[],n⟩,ans,C⟩
theorem Av (n:Nat) (v:V) (ans:List Ans) (C:Prop):lt n v ans C=some ⟨⟨[],v,[],n⟩,ans,C⟩:=fh _ _
def pN (n:Nat) (x:SO):Option Out:=match x with|some (s,as_,C)=>some ⟨⟨[],.s s,[],n⟩,as_,C⟩|none=>none
def OutOK (P:Program) (o:Oper) (env:List V) (n:Nat) (L:Hp) (out:Out):Prop:=
 OpL P o env n (res out.r.foot L) out.r.v out.r.n' (aA (res out.r.foot L) out.r.wr)/\n<=out.r.n'
theorem gJ {v:V} {C:Prop} (h:lt n v ans C=some out)
 (hy:∀ φ (a:Act) (w:World),(∀ x∈o.op.operands,Vr φ (ev env x) (a.eval x))->∃ y,(execOp a.eval o).run P w=.ok (.value y) w/\Vr φ v y):OutOK P o env n L out:=by
 rw[Av] at h;cases h;exact⟨OpL.light λφ a w hx _=>hy φ a w hx,Z02 _⟩
theorem kj {so:SO} (h:pN n so=some out) (hC:out.C)
 (hy:∀ s as_ C,so=some (s,as_,C)->C->∀ φ (a:Act) (w:World),(∀ x∈o.op.operands,Vr φ (ev env x) (a.eval x))->∃ y,(execOp a.eval o).run P w=.ok (.value y) w/\Sr φ s y):OutOK P o env n L out:=by
 unfold pN at h;split at h
 ·rename_i s as_ C
  cases h;exact⟨OpL.light λφ a w hx _=>hy s as_ C rfl hC φ a w hx,Z02 _⟩
 ·cases h
def bU (o k:Nat):Nat:=match o with|0=>k|o+1=>match k with|0=>o+1|k=>o+1+k
theorem ak (o k:Nat):bU o k=o+k:=by unfold bU;cases o<;>cases k<;>simp
def bQ (k s:Nat):Nat:=match s with|1=>k|s=>k*s
theorem ao (k s:Nat):bQ k s=k*s:=by unfold bQ;split<;>simp
def nX (z:Int) (len:Nat):List Ans->Nat×List Ans×Prop
 | .idx k::as_=>(k,as_,z=(k:Int)/\k<len)
 |as_=>(z.toNat,as_,0<=z/\z<(len:Int))
theorem qb {z:Int} {len:Nat} {k:Nat} {as_:List Ans} {C:Prop} (h:nX z len ans=(k,as_,C)) (hC:C):0<=z/\z<(len:Int)/\z.toNat=k:=by
 unfold nX at h
 grind
def jT (P:Program) (s:TypeId) (f:Nat):Option Nat:=
 match P.underlying s with
 |some (.struct fs)=>
  match fs[f]? with
  |some fd=>
   match P.info? fd.type with
   |some i=>match i.size with|0=>none|_+1=>some fd.offset
   |none=>none
  |none=>none
 |_=>none
theorem jS {s:TypeId} {f off:Nat} (h:jT P s f=some off) (b o:Nat) (w:World):(Instr.fieldAt s (.pointer (some ⟨b,o,none⟩)) f).run P w=.ok (.pointer (some ⟨b,o+off,none⟩)) w:=by
 unfold jT at h;split at h
 ·rename_i fs hty
  split at h
  ·rename_i fd hfd
   split at h
   ·rename_i i hi
    split at h
    ·cases h
    ·rename_i k hk
     cases h
     have hs:(sizeOf fd.type).run P w=.ok (k+1) w:=by simp[sizeOf,typeInfo,hi,hk]
     simp only[Instr.fieldAt,Z09,run_underlying hty,Z05,hfd,Instr.sureAddr,Z0f,fieldPlace,hs,bw];simp
   ·cases h
  ·cases h
 ·cases h
def uD (P:Program) (n:Nat) (s:TypeId) (x:V) (f:Nat) (ans:List Ans):Option Out:=
 match x with
 | .s (.ptr (some (i,o)))=>match jT P s f with|some off=>lt n (.s (.ptr (some (i,bU o off)))) ans True|none=>none
 |_=>none
def cE (P:Program) (e:TypeId):Option Nat:=match P.info? e with|some i=>some i.size|none=>none
theorem aI {e:TypeId} {sz:Nat} (h:cE P e=some sz) (w:World):(sizeOf e).run P w=.ok sz w:=by
 unfold cE at h;split at h
 ·rename_i i hi;cases h;simp[sizeOf,typeInfo,hi]
 ·cases h
def iZ (P:Program) (n:Nat) (t:TypeId) (x ix:V) (ans:List Ans):Option Out:=
 match ix with
 | .s (.int _ z)=>
   match P.underlying t with
   |some (.slice e)=>
    match x,cE P e with
    | .s (.slc (some (i,o)) len _),some sz=>match nX z len ans with|(k,as_,C)=>lt n (.s (.ptr (some (i,bU o (bQ k sz))))) as_ C
    |_,_=>none
   |some (.array len e)=>
    match x,cE P e with
    | .s (.ptr (some (i,o))),some sz=>match nX z len ans with|(k,as_,C)=>lt n (.s (.ptr (some (i,bU o (bQ k sz))))) as_ C
    |_,_=>none
   |_=>none
 |_=>none
def uC (P:Program) (n:Nat) (t:TypeId) (x ix:V) (ans:List Ans):Option Out:=
 match ix with
 | .s (.int _ z)=>
   match P.underlying t with
   |some .string=>
    match x with
    | .s (.str l)=>match nX z l.length ans with|(k,as_,C)=>lt n (.s (.int .u8 ((l.getD k 0).toNat:Int))) as_ C
    |_=>none
   |_=>none
 |_=>none
theorem rz {ix:Operand} (ho:o.op=.indexAddr t x ix)
 (h:iZ P n t (ev env x) (ev env ix) ans=some out) (hC:out.C):OutOK P o env n L out:=by
 unfold iZ at h;split at h
 ·rename_i ki z hix
  split at h
  ·rename_i e hty
   split at h
   ·rename_i i off len c sz hx hsz
    rcases hq:nX z len ans with ⟨k,as_,C⟩
    rw[hq] at h;dsimp only at h
    have hC':C:=by rw[Av] at h;cases h;exact hC
    obtain⟨h1,h2,h3⟩:=qb hq hC'
    refine gJ h λφ a w hop=>?_
    have g1:=hop x (by simp[ho,Op.operands]);have g2:=hop ix (by simp[ho,Op.operands]);rw[hx] at g1;rw[hix] at g2;obtain⟨b,cp,hb,hv,_⟩:=g1;simp only[Vr,Sr] at g2;refine⟨.pointer (some ⟨b.1,bU off (bQ k sz)+b.2,none⟩),?_,b,hb,rfl⟩;simp only[execOp,ho,hv,g2,Instr.indexAt,asIntOf,Z09,Z0f,run_underlying hty,Z05,aI hsz,bw,ak,ao,h3];rw[if_pos ⟨h1,h2⟩];simp[aI hsz,bw,h3]
   ·cases h
  ·rename_i len e hty
   split at h
   ·rename_i i off sz hx hsz
    rcases hq:nX z len ans with ⟨k,as_,C⟩
    rw[hq] at h;dsimp only at h
    have hC':C:=by rw[Av] at h;cases h;exact hC
    obtain⟨h1,h2,h3⟩:=qb hq hC'
    refine gJ h λφ a w hop=>?_
    have g1:=hop x (by simp[ho,Op.operands]);have g2:=hop ix (by simp[ho,Op.operands]);rw[hx] at g1;rw[hix] at g2;obtain⟨b,hb,hv⟩:=g1;simp only[Vr,Sr] at g2;refine⟨.pointer (some ⟨b.1,bU off (bQ k sz)+b.2,none⟩),?_,b,hb,rfl⟩;simp only[execOp,ho,hv,g2,Instr.indexAt,Instr.sureAddr,asIntOf,Z09,Z0f,run_underlying hty,Z05,aI hsz,bw,ak,ao,h3];rw[if_pos ⟨h1,h2⟩];simp[aI hsz,bw,h3]
   ·cases h
  ·cases h
 ·cases h
theorem Cy {ix:Operand} (ho:o.op=.index t x ix)
 (h:uC P n t (ev env x) (ev env ix) ans=some out) (hC:out.C):OutOK P o env n L out:=by
 unfold uC at h;split at h
 ·rename_i ki z hix
  split at h
  ·rename_i hty
   split at h
   ·rename_i l hx
    rcases hq:nX z l.length ans with ⟨k,as_,C⟩
    rw[hq] at h;dsimp only at h
    have hC':C:=by rw[Av] at h;cases h;exact hC
    obtain⟨h1,h2,h3⟩:=qb hq hC'
    refine gJ h λφ a w hop=>?_
    have g1:=hop x (by simp[ho,Op.operands]);have g2:=hop ix (by simp[ho,Op.operands]);rw[hx] at g1;rw[hix] at g2;simp only[Vr,Sr] at g1 g2;refine⟨_,?_,rfl⟩;have hk:k<l.length:=aa
    have he:(⟨l.toArray⟩:ByteArray)[k]? =some l[k]:=by
     have hk':k<(⟨l.toArray⟩:ByteArray).size:=hk;rw[getElem?_pos _ k hk'];rfl
    simp only[execOp,ho,g1,g2,Instr.index,asIntOf,Z09,Z0f,run_underlying hty,Z05,h3,if_pos h1,he];simp[hk]
   ·cases h
  ·cases h
 ·cases h
theorem Cz {s:TypeId} {f:Nat} (ho:o.op=.fieldAddr s x f)
 (h:uD P n s (ev env x) f ans=some out):OutOK P o env n L out:=by
 unfold uD at h;split at h
 ·rename_i i off hx
  split at h
  ·rename_i d hd
   refine gJ h λφ a w hop=>?_
   have g1:=hop x (by simp[ho,Op.operands]);rw[hx] at g1;obtain⟨b,hb,hv⟩:=g1;refine⟨.pointer (some ⟨b.1,bU off d+b.2,none⟩),?_,b,hb,rfl⟩;simp only[execOp,ho,hv,Z09,jS hd,Z05,Z0f,ak,Nat.add_right_comm]
  ·cases h
 ·cases h
def Bk (P:Program) (n:Nat) (L:Hp) (t:TypeId) (x:V) (ans:List Ans):Option Out:=
 match x with
 | .s (.ptr (some (i,o)))=>
   match lk L i,xL P t with
   |some bl,some (ag,sz)=>
    match bl.sym with
    |false=>
     match ans with
     | .ldv v::as_=>some ⟨⟨[i],v,[],n⟩,as_,eO ag sz bl o=some v⟩
     |ans=>match eO ag sz bl o with|some v=>jg v λv=>some ⟨⟨[i],v,[],n⟩,ans,True⟩|none=>none
    |true=>match ans with| .val v::as_=>some ⟨⟨[i],v,[],n⟩,as_,eO ag sz bl o=some v⟩|_=>none
   |_,_=>none
 |_=>none
theorem F_ (ho:o.op=.load t x)
 (h:Bk P n L t (ev env x) ans=some out) (hC:out.C):OutOK P o env n L out:=by
 have key:∀ (i off:Nat) (bl:Bl) (ag:Bool) (sz:Nat) (v:V),ev env x=.s (.ptr (some (i,off)))->lk L i=some bl->xL P t=some (ag,sz)->eO ag sz bl off=some v->OpL P o env n (res [i] L) v n (res [i] L):=by
  intro i off bl ag sz v hx hl ht hld
  refine OpL.light λφ a w hop hg=>?_
  have g1:=hop x (by simp[ho,Op.operands]);rw[hx] at g1;obtain⟨b,hb,hv⟩:=g1;obtain⟨b',hb',hat⟩:=hg.hr i bl (by rw[bJ];simp[hl]);rw[hb] at hb';cases hb';obtain⟨y,hy,hr⟩:=nO hat ht hld;exact⟨y,by simp only[execOp,ho,hv,Instr.loadAt,Instr.sureAddr,Z09,Z0f,Z05,hy],hr⟩
 unfold Bk at h;split at h
 ·rename_i i off hx
  split at h
  ·rename_i bl ag sz hl ht
   split at h
   ·split at h
    ·rename_i v as_
     cases h;exact⟨key i off bl ag sz v hx hl ht hC,Z02 _⟩
    ·split at h
     ·rename_i v hld
      rw[fh] at h;cases h;exact⟨key i off bl ag sz v hx hl ht hld,Z02 _⟩
     ·cases h
   ·split at h
    ·rename_i v as_
     cases h;exact⟨key i off bl ag sz v hx hl ht hC,Z02 _⟩
    ·cases h
  ·cases h
 ·cases h
def nF (P:Program) (n:Nat) (L:Hp) (t:TypeId) (x v:V) (ans:List Ans):Option Out:=
 match x with
 | .s (.ptr (some (i,o)))=>
   match lk L i,cE P t,cellsOf v with
   |some bl,some sz,some l=>
    match Nat.beq l.length sz&& !bl.ro&&cf bl l&&bl.kind.isNone with
    |true=>
     match bl.sym with
     |false=>
      match ans with
      | .stc cs::as_=>some ⟨⟨[i],.undef,[(i,some {bl with cells:=cs})],n⟩,as_,o+l.length<=bl.cells.length/\cs=bW bl.cells o l⟩
      |ans=>match Nat.ble (o+l.length) bl.cells.length with|true=>l6 (bW bl.cells o l) [] λcs=>some ⟨⟨[i],.undef,[(i,some {bl with cells:=cs})],n⟩,ans,True⟩|false=>none
     |true=>match ans with| .cells cs::as_=>some ⟨⟨[i],.undef,[(i,some {bl with cells:=cs})],n⟩,as_,o+l.length<=bl.cells.length/\cs=bW bl.cells o l⟩|_=>none
    |false=>none
   |_,_,_=>none
 |_=>none
theorem sx {y:Operand} (ho:o.op=.store t x y)
 (h:nF P n L t (ev env x) (ev env y) ans=some out) (hC:out.C):OutOK P o env n L out:=by
 have key:∀ (i off:Nat) (bl:Bl) (sz:Nat) (l cs:List S),ev env x=.s (.ptr (some (i,off)))->lk L i=some bl->cE P t=some sz->cellsOf (ev env y)=some l->
  (Nat.beq l.length sz&& !bl.ro&&cf bl l&&bl.kind.isNone)=true->off+l.length<=bl.cells.length->cs=bW bl.cells off l->
  OpL P o env n (res [i] L) .undef n (aA (res [i] L) [(i,some {bl with cells:=cs})]):=by
  intro i off bl sz l cs hx hl ht hcl hchk hle hcs φ a w Q hop hg hf;simp only[Z07,Z0v] at hchk;obtain⟨⟨⟨hsz,hro⟩,hfit⟩,hkd⟩:=hchk
  have hkd:bl.kind=none:=by simpa using hkd
  have hsz:=Z0q hsz;have g1:=hop x (by simp[ho,Op.operands]);have g2:=hop y (by simp[ho,Op.operands]);rw[hx] at g1;obtain⟨b,hb,hv⟩:=g1;have hall:=nv hcl g2
  have e1:res [i] L=[(i,some bl)]:=by simp[res,hl]
  have e2:aA (res [i] L) [(i,some {bl with cells:=cs})]=[(i,some {bl with cells:=cs})]:=by rw[e1];simp[aA,put]
  rw[e2];rw[e1] at hg |-;obtain⟨b',hb',pre,xs,rest,fr,k1,hp,k2,k3,k4,k5⟩:=hg.hr i bl (by simp[lk]);rw[hkd] at k1;simp only[di] at k1;rw[hb] at hb';cases hb';have hvl:=hall.len
  obtain⟨w',hr,q1,q2,q3,q4,q5,q6⟩:=eC (P:=P) (b:=b.1) (o:=off+b.2) (a.eval y).cells.toList 0 w (pre++(xs++rest)) k1
   (λz hz=>by
     obtain⟨j,hj,hz⟩:=List.getElem_of_mem hz;obtain⟨s,hsm,hs⟩:=hall.get' (i:=j) (b:=z) (by rw[<-hz];simp[hj])
     exact hs.cell (m7 hfit hsm))
   (by have:=k2.len;simp only[Z03];omega) (k4 hro)
  have hrun:(execOp a.eval o).run P w=.ok .skip w':=by
   have hs:=aI ht w;have: ¬((a.eval y).cells.size≠sz):=ae;simp only[execOp,ho,hv,Instr.storeAt,Instr.sureAddr,storeVar,Z09,Z0f,Z05,hs,if_neg this,hr]
  unfold Oper.wp;rw[hrun,Z5w];obtain⟨good,stp⟩:=pz (w':=w') (cs':=cs) hkd hg hb hro hfit hall hle hcs ⟨pre,xs,rest,fr,k1,hp,k2,k3,k4 hro,k5,ae⟩ q1 q2 q3 q4 q6;exact⟨φ,Go.undef,rfl,rfl,good,stp,λ_ _=>rfl⟩
 unfold nF at h;split at h
 ·rename_i i off hx
  split at h
  ·rename_i bl sz l hl ht hcl
   split at h
   ·rename_i hchk
    split at h
    ·split at h
     ·rename_i cs as_
      cases h;exact⟨key i off bl sz l cs hx hl ht hcl hchk hC.1 hC.2,Z02 _⟩
     ·split at h
      ·rename_i hle
       rw[cO] at h;cases h;exact⟨key i off bl sz l _ hx hl ht hcl hchk (Z1y hle) rfl,Z02 _⟩
      ·cases h
    ·split at h
     ·rename_i cs as_
      cases h;exact⟨key i off bl sz l cs hx hl ht hcl hchk hC.1 hC.2,Z02 _⟩
     ·cases h
   ·cases h
  ·cases h
 ·cases h
theorem Bi {n:Nat} {L:Hp} {ty:TypeId} {l:List S} {ans:List Ans}
 (h:∀ φ (a:Act) (w:World),(∀ x∈o.op.operands,Vr φ (ev env x) (a.eval x))->∃ xs:List Value,(execOp a.eval o).run P w=.ok (.value (.pointer (some ⟨w.heap.size,0,none⟩))) {w with heap:=w.heap.push (.cells xs.toArray ty)}/\All2 (Sr φ) l xs):
 OutOK P o env n L (Cx n ty l ans):=by
 refine⟨?_,Z3s _⟩
 have e:aA (res (Cx n ty l ans).r.foot L) (Cx n ty l ans).r.wr=put [] n (some {cells:=l,ty}):=by simp[Cx,res,aA]
 rw[e]
 refine OpL.fresh (L:=[]) (by simp[lk]) λφ a w hop _=>?_
 obtain⟨xs,hr,hall⟩:=h φ a w hop;exact⟨_,_,hr,rfl,rfl,rfl,⟨_,rfl⟩,xe rfl hall,λφ' hn _=>⟨_,hn,rfl⟩⟩
def uH (P:Program) (n:Nat) (t:TypeId) (ans:List Ans):Option Out:=match dW P t with|some l=>l6 l [] λl=>some (Cx n t l ans)|none=>none
theorem CC (ho:o.op=.alloc t) (h:uH P n t ans=some out):OutOK P o env n L out:=by
 unfold uH at h;split at h
 ·rename_i l hz
  rw[cO] at h;cases h
  refine Bi λφ a w hop=>?_
  obtain⟨z,hr,hall⟩:=fZ hz w;exact⟨z.cells.toList,by simp[execOp,ho,Instr.alloc,hr,newVar,newRow],hall φ⟩
 ·cases h
def IA (n:Nat) (t:TypeId) (v:V) (ans:List Ans):Option Out:=match cellsOf v with|some l=>l6 l [] λl=>some (Cx n t l ans)|none=>none
theorem Iz (ho:o.op=.box t x) (h:IA n t (ev env x) ans=some out):OutOK P o env n L out:=by
 unfold IA at h;split at h
 ·rename_i l hz
  rw[cO] at h;cases h
  refine Bi λφ a w hop=>?_
  exact⟨(a.eval x).cells.toList,by simp[execOp,ho,Instr.box,newVar,newRow],nv hz (hop x (by simp[ho,Op.operands]))⟩
 ·cases h
end
