import Derived.Test.YtegjgpldfgjoiaaGreatDoorCnJ10
import Derived.Test.YtegjgpldfgjoiaaGreatDoorRows
set_option linter.all false
set_option maxHeartbeats 40000000
set_option maxRecDepth 100000
namespace Go.Proofs.YtegjgpldfgjoiaaGreatDoor
namespace Ab
open Go
section
variable {i m sz g n:Nat} {get:Nat->List S} {l l':List S}
def SLe (a b:S):Prop:=∀ (φ:Ph) (x:Value),Sr φ a x->Sr φ b x
def ULe (a b:U):Prop:=∀ (φ:Ph) (x:Value),Ur φ a x->Ur φ b x
theorem SLe.refl (a:S):SLe a a:=λ_ _ h=>h
theorem bB {a b:V} (h:a=b):VLe a b:=h▸ah _
theorem dd (a:V):VLe a .any:=λ_ _ _=>trivial
theorem VLe.s {a b:S} (h:SLe a b):VLe (.s a) (.s b):=λφ x hx=>h φ x hx
theorem SLe.alls (h:All2 SLe l l'):∀ {φ:Ph} {xs:List Value},All2 (Sr φ) l xs->All2 (Sr φ) l' xs:=by
 induction l generalizing l' with
 |nil=>intro φ xs k;cases l' with
  |nil=>exact k
  |cons _ _=>exact h.elim
 |cons a t ih=>intro φ xs k;cases l' with
  |nil=>exact h.elim
  |cons b t'=>cases xs with
   |nil=>exact k.elim
   |cons x xs=>exact⟨h.1 φ x k.1,ih h.2 k.2⟩
theorem ULe.alls {l l':List U} (h:All2 ULe l l'):∀ {φ:Ph} {xs:List Value},All2 (Ur φ) l xs->All2 (Ur φ) l' xs:=by
 induction l generalizing l' with
 |nil=>intro φ xs k;cases l' with
  |nil=>exact k
  |cons _ _=>exact h.elim
 |cons a t ih=>intro φ xs k;cases l' with
  |nil=>exact h.elim
  |cons b t'=>cases xs with
   |nil=>exact k.elim
   |cons x xs=>exact⟨h.1 φ x k.1,ih h.2 k.2⟩
theorem VLe.agg (h:All2 SLe l l'):VLe (.agg l) (.agg l'):=λφ x ⟨xs,e,k⟩=>⟨xs,e,SLe.alls h k⟩
theorem ULe.s {a b:S} (h:SLe a b):ULe (.s a) (.s b):=λφ x hx=>h φ x hx
theorem ULe.agg (h:All2 SLe l l'):ULe (.agg l) (.agg l'):=λφ x ⟨xs,e,k⟩=>⟨xs,e,SLe.alls h k⟩
theorem VLe.tup {l l':List U} (h:All2 ULe l l'):VLe (.tup l) (.tup l'):=λφ x ⟨xs,e,k⟩=>⟨xs,e,ULe.alls h k⟩
theorem SLe.nil {c:Option Nat}:SLe (.slc none m c) (.frz get sz 0):=λφ x h=>by
 obtain⟨_,_,rfl⟩:=h;exact .nil _ _ _ _ (λ_=>rfl)
theorem SLe.row0:SLe (.row i g 0) (.frz get sz 0):=λφ x h=>by
 rcases h with ⟨_,rfl⟩|⟨h,_⟩
 ·exact .nil _ _ _ _ (λ_=>rfl)
 ·omega
theorem SLe.nilrow {c:Option Nat}:SLe (.slc none m c) (.row i g 0):=λφ x h=>by
 obtain⟨_,_,rfl⟩:=h;exact .inl ⟨rfl,rfl⟩
theorem SLe.slarow (h:0<n):SLe (.sla i g n) (.row i g n):=λφ x k=> .inr ⟨h,k⟩
theorem SLe.rowsla (h:0<n):SLe (.row i g n) (.sla i g n):=λφ x k=>by
 rcases k with ⟨e,_⟩|⟨_,k⟩
 ·omega
 ·exact k
theorem SLe.frz {get':Nat->List S} (h:∀ i,i<n->get i=get' i):SLe (.frz get sz n) (.frz get' sz n):=λφ x k=>by
 cases k with
 |nil get sz a k hk=>exact .nil _ _ _ _ hk
 |frz get sz n b o k vs h1 hn val hl hv hx=>
  exact .frz _ _ _ _ _ _ vs h1 hn val (λi hi=>by grind) (λi j x hi hg=>hv i j x hi ae) (λi j x hi hg=>hx i j x hi ae)
section
variable {P:Program} {b:Nat} {c:Code} {env:List V} {n:Nat} {L:Hp} {R:Post}
theorem Ex.le {env':List V} (h:All2 VLe env env') (k:Ex P b c env' n L R):Ex P b c env n L R:=by
 intro φ a w h1 h2 h3 h4;exact k φ a w ⟨h1.1,VLe.all h h1.2⟩ h2 h3 h4
theorem Be:∀ {env:List V} {t:Nat} {v:V},VLe (env.getD t .undef) v->All2 VLe env (env.set t v)
 |[],_,_,_=>trivial
 |x::e,0,v,h=>⟨h,VLe.refls e⟩
 |x::e,t+1,v,h=>⟨ah x,Be (env:=e) h⟩
theorem gH (t:Nat) (v:V) (h:VLe (env.getD t .undef) v) {env':List V} (he:env.set t v=env') (k:Ex P b c env' n L R):Ex P b c env n L R:=
 Ex.le (he▸Be h) k
theorem Ex.sub {L':Hp} (h:xy L' L) (k:Ex P b c env n L' R):Ex P b c env n L R:=by
 intro φ a w h1 h2 h3 h4;refine wp_mono (k φ a w h1 (h2.sub h) h3 h4) ?_;rintro x a' w' ⟨φ',e,m,M,hR,k1,k2,k3,k4,k5,k6⟩;refine⟨φ',e,m,M,hR,k1,k2,k3,k4,⟨k5.os,k5.tape,k5.output,k5.size,λb hb hn=>k5.keep b hb λhw=>hn (hw.sub h),λj bl b hj hb hlt=>?_,k5.zle,λx l hx=>?_⟩,k6⟩
 ·obtain⟨k,bl',c,hk,rest⟩:=k5.fresh j bl b hj hb hlt
  exact⟨k,bl',c,h _ _ hk,rest⟩
 ·rcases k5.zfr x l hx with q|q|q
  ·exact .inl q
  ·grind
  ·exact .inr (.inr (q.sub h))
def bL:S->Bool
 | .bool _=>true
 | .int _ _=>true
 | .str _=>true
 | .frz _ _ _=>true
 | .unk=>true
 | .cst _=>true
 |_=>false
theorem Sr.pr {φ:Ph} {x:S} {v:Value} (h:Sr φ x v) (hp:bL x=true):Pr φ.z x v:=by
 cases x with
 |bool b=>simp only[Sr] at h;subst h;exact .bool b
 |int k n=>simp only[Sr] at h;subst h;exact .int k n
 |str l=>simp only[Sr] at h;subst h;exact .str l
 |unk=>exact .unk v h
 |cst u=>obtain⟨rfl,h⟩:=h;exact .cst v h
 |frz get sz n=>exact h
 |_=>cases hp
def dQ:V->Option (Nat×Nat)
 | .s (.sla j _ n)=>some (j,n)
 | .s (.slc (some (j,0)) n _)=>some (j,n)
 | .s (.row j _ n)=>some (j,n)
 |_=>none
theorem Ex.fz (t:Nat) (get:Nat->List S) (sz:Nat) {N:Nat} {bl:Bl} (ht:dQ (env.getD t .undef)=some (i,N)) (hl:lk L i=some bl) (hro:bl.ro=false) (hk:bl.kind=none)
 (hg:∀ k,k<N->(get k).length=sz) (hc:∀ k j x,k<N->(get k)[j]? =some x->bl.cells[k*sz+j]? =some x/\bL x=true)
 {env':List V} (he:env.set t (.s (.frz get sz N))=env') {L':Hp} (hL:put L i none=L') (k:Ex P b c env' n L' R):Ex P b c env n L R:=by
 subst he;subst hL;intro φ a w h1 h2 h3 h4;obtain⟨b0,hb0,pre,xs,rest,fr,p1,hp,p2,p3,p4,p5⟩:=h2.hr i bl hl;rw[hk] at p1;simp only[di] at p1
 let φ':Ph:=⟨φ.f,λx=>if x=b0.1 then some (pre++(xs++rest)) else φ.z x⟩
 have hz0:φ.z b0.1=none:=by
  cases e:φ.z b0.1 with
  |none=>rfl
  |some l=>exact absurd ⟨i,bl,b0,hl,hb0,rfl,hro⟩ (h2.fz b0.1 l e).2
 have zle:∀ x l,φ.z x=some l->φ'.z x=some l:=by
  grind
 have hle:φ.le φ':=⟨λ_ _ h=>h,zle⟩
 have hlt:b0.1<w.heap.size:=by
  grind
 have sub:xy (put L i none) L:=by
  intro j bj hj
  grind [aC]
 have good':Good φ' (put L i none) w:=by
  refine⟨λj bj hj=>?_,λj j' bj bj' c c' hj hj' hc hc' hcc=>h2.inj j j' bj bj' c c' (sub j bj hj) (sub j' bj' hj') hc hc' hcc,λx l hx=>?_,h2.gz.mono zle⟩
  ·obtain⟨c,hc,hat⟩:=h2.hr j bj (sub j bj hj)
   exact⟨c,hc,hat.mono hle rfl⟩
  ·by_cases e:x=b0.1
   ·subst e
    simp only[φ',if_true,Z06] at hx;subst hx;refine⟨⟨bl.ty,fr,p1⟩,?_⟩;rintro⟨j,bj,c,hj,hc,hcb,hroj⟩;have hj':=sub j bj hj
    rcases h2.inj j i bj bl c b0 hj' hl hc hb0 hcb with rfl|⟨e,_⟩
    all_goals grind [aC]
   ·simp only[φ',if_neg e] at hx
    exact⟨(h2.fz x l hx).1,λhw=>(h2.fz x l hx).2 (Wr.sub sub (by obtain⟨j,bj,c,hj⟩:=hw;exact⟨j,bj,c,hj⟩))⟩
 have hfz:∀ m kk,m<=N->m<=kk->Sr φ' (.frz get sz m) (.slice (some ⟨b0.1,b0.2,none⟩) m kk):=by
  intro m kk hm hmk;refine .frz get sz m b0.1 b0.2 kk (pre++(xs++rest)) ae hmk (λk j=>xs.getD (k*sz+j) Go.undef) (λk hk=>hg k aa) (λk j x hk hx=>?_) (λk j x hk hx=>?_)
  ·obtain⟨e,_⟩:=hc k j x aa hx
   obtain⟨v,hv,_⟩:=p2.get e
   have hlx:k*sz+j<xs.length:=by
    rcases Z0a (k*sz+j) xs.length with h|h
    ·exact h
    ·simp[Z0b h] at hv
   rw[Z4k b0.2,iJ pre _ hp,Z0x hlx,Z00,hv];rfl
  ·obtain⟨e,hpx⟩:=hc k j x aa hx
   obtain⟨v,hv,hs⟩:=p2.get e;rw[Z00,hv,Z22];exact ((hs.mono (bl.ph_le_self φ)).mono hle).pr hpx
 have env':All2 (Vr φ') (env.set t (.s (.frz get sz N))) a.tmps.toList:=by
  have hall:=h1.2.mono (λ_ _=>Vr.mono hle)
  have hv:=(EnvR.slot (t:=t) ⟨h1.1,h1.2⟩)
  have hval:Vr φ' (.s (.frz get sz N)) (a.tmps.getD t Go.undef):=by
   generalize env.getD t .undef=v at ht hv;unfold dQ at ht;split at ht
   ·cases ht
    obtain⟨b1,kk,hb1,_,e,hmk⟩:=hv;rw[hb0] at hb1;cases hb1;rw[e];exact hfz _ kk (Z02 _) hmk
   ·cases ht
    obtain⟨b1,kk,hb1,e,hmk,_⟩:=hv;rw[hb0] at hb1;cases hb1;rw[e,Z0c];exact hfz _ kk (Z02 _) hmk
   ·cases ht
    rcases hv with ⟨rfl,e⟩|⟨_,b1,kk,hb1,_,e,hmk⟩
    ·rw[e];exact .nil _ _ _ _ (λ_=>rfl)
    ·rw[hb0] at hb1;cases hb1
     rw[e];exact hfz _ kk (Z02 _) hmk
   ·cases ht
  have key:∀ (e:List V) (ys:List Value) (t:Nat) (v:V),All2 (Vr φ') e ys->Vr φ' v (ys.getD t Go.undef)->All2 (Vr φ') (e.set t v) ys:=by
   intro e
   induction e with
   |nil=>grind
   |cons u e ih=>intro ys t v h hv;cases ys with
    |nil=>exact h.elim
    |cons y ys=>cases t with
     |zero=>exact⟨hv,h.2⟩
     |succ t=>exact⟨h.1,ih ys t v h.2 hv⟩
  refine key _ _ _ _ hall ?_
  have e:a.tmps.toList.getD t Go.undef=a.tmps.getD t Go.undef:=by simp[Z1x,Z00]
  grind
 refine wp_mono (k φ' a w ⟨h1.1,env'⟩ good' h3 h4) ?_;rintro x a' w' ⟨φ2,e,m,M,hR,k1,k2,k3,k4,k5,k6⟩;refine⟨φ2,e,m,M,hR,k1,k2,k3,k4,⟨k5.os,k5.tape,k5.output,k5.size,λd hd hn=>k5.keep d hd λhw=>hn (Wr.sub sub (by obtain⟨j,bj,c,hj⟩:=hw;exact⟨j,bj,c,hj⟩)),λj bl1 d hj hd hlt'=>?_,λx l hx=>k5.zle x l (zle x l hx),λx l hx=>?_⟩,k6⟩
 ·obtain⟨kk,bl',c,hkk,rest'⟩:=k5.fresh j bl1 d hj hd hlt'
  exact⟨kk,bl',c,sub _ _ hkk,rest'⟩
 ·rcases k5.zfr x l hx with q|q|q
  ·by_cases e:x=b0.1
   ·subst e;exact .inr (.inr ⟨i,bl,b0,hl,hb0,rfl,hro⟩)
   all_goals grind
  ·grind
  ·exact .inr (.inr (Wr.sub sub (by obtain⟨j,bj,c,hj⟩:=q;exact⟨j,bj,c,hj⟩)))
def KW:List Oper->List Nat->List Nat
 |[],acc=>acc
 |o::t,acc=>match o.dst with|some d=>KW t (d::acc)|none=>KW t acc
def KX:Code->List Nat->List Nat
 | .seq x y,acc=>KX x (KX y acc)
 | .cond _ x y,acc=>KX x (KX y acc)
 | .block _ c,acc=>KX c acc
 | .loop c,acc=>KX c acc
 | .region _ ops _,acc=>KW ops.toList acc
 |_,acc=>acc
def sM (A:List Nat) (X:List (Nat×V)):Nat->List V->List V
 |_,[]=>[]
 |i,v::t=>(match iQ X i with|some x=>x|none=>match A.elem i with|true=> .any|false=>v)::sM A X (i+1) t
def vN (A:List Nat) (X:List (Nat×V)):Nat->List V->List V
 |_,[]=>[]
 |i,v::t=>(match iQ X i with|some _=> .any|none=>match A.elem i with|true=> .any|false=>v)::vN A X (i+1) t
def XLe (e:List V):List (Nat×V)->Prop
 |[]=>True
 |(t,v)::r=>VLe (e.getD t .undef) v/\XLe e r
theorem XLe.at {e:List V}:∀ {X:List (Nat×V)} {i:Nat} {v:V},XLe e X->iQ X i=some v->VLe (e.getD i .undef) v
 |(j,u)::t,i,v,h,hf=>by
  simp only[iQ] at hf;split at hf
  ·rename_i hb
   have:=Z0q hb;subst this;cases hf;exact h.1
  ·exact XLe.at h.2 hf
 |[],_,_,_,h=>by simp[iQ] at h
theorem sK {A:List Nat} {X:List (Nat×V)}:∀ {env e:List V} {k:Nat},vN A X k env=vN A X k e->(∀ i v,iQ X (k+i)=some v->VLe (e.getD i .undef) v)->All2 VLe e (sM A X k env)
 |[],[],k,_,_=>trivial
 |[],_::_,k,h,_=>by simp[vN] at h
 |_::_,[],k,h,_=>by simp[vN] at h
 |u::env,v::e,k,h,hx=>by
  simp only[vN,Z4s] at h;simp only[sM]
  refine⟨?_,sK h.2 λi y hi=>by
   have:=hx (i+1) y (by rw[<-hi];congr 1;omega)
   simpa using this⟩
  have h0:=λy=>hx 0 y
  grind [dd,ah]
def SubP (M:Hp):Hp->Prop
 |[]=>True
 |(_,none)::t=>SubP M t
 |(i,some bl)::t=>lk M i=some bl/\SubP M t
theorem SubP.sub {M:Hp}:∀ {L:Hp},SubP M L->xy L M
 |(j,none)::t,h,i,bl,hi=>by
  rw[aY] at hi;split at hi
  ·cases hi
  ·exact SubP.sub (L:=t) h i bl hi
 |(j,some c)::t,h,i,bl,hi=>by
  rw[aY] at hi;split at hi
  ·rename_i e;subst e;cases hi;exact h.1
  ·exact SubP.sub (L:=t) h.2 i bl hi
 |[],_,i,bl,hi=>by simp[lk] at hi
def gE {β:Type}:List V->List V->(List V->β)->β
 |[],acc,k=>rv acc [] k
 |v::t,acc,k=>
  match v with
  | .any=>gE t (.any::acc) k
  | .undef=>gE t (.undef::acc) k
  | .s x=>gE t (.s x::acc) k
  | .agg l=>gE t (.agg l::acc) k
  | .tup l=>gE t (.tup l::acc) k
  | .w i g sz j m=>gE t (.w i g sz j m::acc) k
theorem wG {β:Type} (k:List V->β):∀ (l acc:List V),gE l acc k=k (acc.reverse++l)
 |[],acc=>by simp only[gE];rw[Aa]
 |v::t,acc=>by cases v<;>(simp only[gE];rw[wG k t];simp)
theorem kr {β:Type} (k:List V->β) (l:List V):gE l [] k=k l:=by rw[wG];rfl
def xz {σ:Type} (b m:Nat) (A:List Nat) (X:σ->List (Nat×V)) (env:List V) (H:σ->Hp) (I:σ->Prop) (mu:σ->Nat) (s:σ) (R:Post):Post
 | .normal,e,_,M=>∃ s',I s'/\mu s'<mu s/\To b m e M (sM A (X s') 0 env) (H s')
 |x,e,m',M=>R x e m' M
theorem cy {σ:Type} (X:σ->List (Nat×V)) (H:σ->Hp) (I:σ->Prop) (mu:σ->Nat) (s0:σ) {A:List Nat} (hA:l6 (KX c []) [] some=some A) {E:σ->List V} (hE:∀ s,gE (sM A (X s) 0 env) [] some=some (E s))
 (i0:I s0) (x0:XLe env (X s0)) (h0:SubP L (H s0)) (step:∀ s,I s->Ex P b c (E s) n (H s) (xz b n A X env H I mu s R)):Ex P b (.loop c) env n L R:=by
 have hE':∀ s,sM A (X s) 0 env=E s:=λs=>by grind [kr]
 refine Ex.sub h0.sub (Ex.le (env':=E s0) (hE' s0▸sK rfl λi v hf=>x0.at ae) ?_);intro φ a w k1 k2 k3 k4;refine Ex.loopT (λk env L=>∃ s,I s/\mu s<=k/\env=E s/\L=H s) k4 ?_ ?_ (mu s0) (E s0) (H s0) ⟨s0,i0,Z02 _,rfl,rfl⟩ φ a w k1 k2 k3 k4
 ·rintro k env L ⟨s,hI,hmu,rfl,rfl⟩
  refine (step s hI).mono ?_;intro x e m M hR
  cases x with
  |normal=>
   obtain⟨s',hI',hlt,ht⟩:=hR
   grind
  |_=>exact .inr ⟨aq,hR⟩
 ·rintro env L ⟨s,hI,hmu,rfl,rfl⟩
  refine (step s hI).mono ?_;intro x e m M hR
  cases x with
  |normal=>
   obtain⟨s',hI',hlt,ht⟩:=hR;omega
  |_=>exact⟨aq,hR⟩
theorem To.same {e e':List V} {M M':Hp} (h1:All2 VLe e e') (h2:SubP M M') (h3:e'.all (fI m)=true) (h4:fg m M'=true) (hb:b<=m):To b m e M e' M':=by
 intro φ₀ φ L₀ w₀ w a k1 k2 k3
 have st:Stp φ₀ L₀ w₀ φ M' w:=⟨k3.os,k3.tape,k3.output,k3.size,k3.keep,λj bl b hj=>k3.fresh j bl b (h2.sub j bl hj),k3.zle,k3.zfr⟩
 refine⟨aH m φ,⟨k1.1,kx (VLe.all h1 k1.2) h3⟩,(k2.sub h2.sub).cut h4,λi hi=>by simp[aH];omega,⟨st.os,st.tape,st.output,st.size,st.keep,λj bl c hj hc=>?_,st.zle,st.zfr⟩,λi hi=>by simp[aH];omega⟩
 grind [aH,st.fresh]
theorem dz {σ:Type} {A:List Nat} {X:σ->List (Nat×V)} {env:List V} {H:σ->Hp} {I:σ->Prop} {mu:σ->Nat} {s:σ} {e:List V} {m':Nat} {M:Hp} (s':σ) (hI:I s') (hmu:mu s'<mu s)
 (h1:vN A (X s') 0 env=vN A (X s') 0 e) (hx:XLe e (X s')) (h2:SubP M (H s')) (h3:(sM A (X s') 0 env).all (fI m)=true) (h4:fg m (H s')=true) (hb:b<=m):
 xz b m A X env H I mu s R .normal e m' M:=
 ⟨s',hI,hmu,To.same (sK h1 λi v hf=>hx.at ae) h2 h3 h4 hb⟩
end
end
section
variable {K:Bool->Prop} {G p C q B G':Prop} {n i n0' m n':Nat} {L wr L0 L0' M:Hp} {R:Post} {P:Program} {a:Int} {y c:Code} {dst:Option Tmp} {f:FuncId} {pos:String} {af:Array Edge} {gd:Option (Nat×Bool)}
section
variable {P:Program} {b:Nat} {ops:Array Oper} {d:Bool} {acc:List Row} {os:List Oper} {o:Oper} {env:List V} {n:Nat} {L:Hp} {R:Post}
structure CallG (P:Program) (ops:Array Oper) (d:Bool) (acc:List Row) (o:Oper) (f:FuncId) (xs:Array Operand) (os:List Oper) (env:List V) (n:Nat) (L:Hp) (R:Post):Prop where
 k:(∃ ts,o.op=.call {callee:=.value (.func f),args:=xs,argTypes:=ts})->RegX P ops d acc (o::os) env n L R
theorem RegX.atCall {xs:Array Operand} {ts:Array TypeId} {t:TypeId}
 (h:CallG P ops d acc ⟨dst,.call ⟨.value (.func f),xs,ts⟩,t,pos,af,gd⟩ f xs os env n L R):RegX P ops d acc (⟨dst,.call ⟨.value (.func f),xs,ts⟩,t,pos,af,gd⟩::os) env n L R:=h.k ⟨ts,rfl⟩
structure CmpG (P:Program) (ops:Array Oper) (d:Bool) (acc:List Row) (o:Oper) (os:List Oper) (env:List V) (n:Nat) (L:Hp) (R:Post):Prop where
 k:RegX P ops d acc (o::os) env n L R
theorem RegX.atCmp {op:BinOp} {ty ty':TypeId} {x y:Operand} {t:TypeId}
 (h:CmpG P ops d acc ⟨dst,.binOp op ty x y ty',t,pos,af,gd⟩ os env n L R):RegX P ops d acc (⟨dst,.binOp op ty x y ty',t,pos,af,gd⟩::os) env n L R:=h.k
variable {f:FuncId} {xs:Array Operand}
theorem CallG.is (f:FuncId) (h:CallG P ops d acc o f xs os env n L R):CallG P ops d acc o f xs os env n L R:=h
theorem sC {args:List V} {v:V} (sc:FC P f args 0 [] v 0 []) {args1:List V} (ha:xs.toList.map (ev env)=args1) (hle:All2 VLe args1 args) (h1:args.all (fI 0)=true) (h2:fI 0 v=true)
 (hw:bf ops env o=some true) (k:RegX P ops d (aE d o [] [] acc) os (bg env o.dst v) n L R):CallG P ops d acc o f xs os env n L R:=by
 refine⟨λ⟨ts,ho⟩=>?_⟩;obtain⟨hf,sc⟩:=sc;unfold oz at hf;split at hf
 ·rename_i fn hfn
  simp only[Z07,Z0v] at hf;have h:=SC.opW (tbl:=[]) (n:=n) (env:=env) (M:=[]) (M':=[]) sc h1 rfl ho rfl hfn hf.1 hf.2 (by rw[ha,vz h1];exact hle) wI (λx bl h=>by simp[lk] at h);rw[oF h2] at h;exact RegX.op (foot:=[]) (wr:=[]) hw h (Z02 _) k
 ·cases hf
theorem CallG.pu {args:List V} {v:V} (sc:FC P f args 0 [] v 0 []) (ha:xs.toList.map (ev env)=args) (h1:args.all (fI 0)=true) (h2:fI 0 v=true)
 (hw:bf ops env o=some true) (k:RegX P ops d (aE d o [] [] acc) os (bg env o.dst v) n L R):CallG P ops d acc o f xs os env n L R:=
 sC sc ha (VLe.refls _) h1 h2 hw k
theorem Zgm (tbl:List Nat) {args0:List V} {v0:V} (sc:FC P f args0 tbl.length L0 v0 n0' L0')
 (hchk:(args0.all (fI tbl.length)&&fg tbl.length L0&&ep L0 L0'&&co (bP L0')&&Nat.ble tbl.length n0'&&qW tbl n n0'&&ry tbl L0)=true) {args1:List V} (ha:xs.toList.map (ev env)=args1) (hle:All2 VLe args1 (args0.map (cb (rn tbl n)))) (ft:FitP tbl n (res tbl L) L0)
 (hw:bf ops env o=some true) {v:V} (hv:jg (cb (rn tbl n) v0) some=some v) {wr:Hp} (hwr:l6 (cj tbl n L0 L0') [] some=some wr)
 (k:RegX P ops d (aE d o tbl wr acc) os (bg env o.dst v) (n+(n0'-tbl.length)) (aA L wr) R):CallG P ops d acc o f xs os env n L R:=by
 refine⟨λ⟨ts,ho⟩=>?_⟩;obtain⟨hf,sc⟩:=sc;rw[fh] at hv;cases hv;rw[cO] at hwr;cases hwr;simp only[Z07] at hchk;obtain⟨⟨⟨⟨⟨⟨k1,k2⟩,k3⟩,k4⟩,k5⟩,k6⟩,k7⟩:=hchk;unfold oz at hf;split at hf
 ·rename_i fn hfn
  simp only[Z07,Z0v] at hf;have h:=SC.opW (n:=n) (env:=env) (M:=res tbl L) sc k1 k2 ho rfl hfn hf.1 hf.2 (ha▸hle) (Fits.of k6 k7 ft) (fS k3 k4);exact RegX.op hw h (Z1o _ _) k
 ·cases hf
theorem CallG.xt {args:List V} {v:V} (hx:XT P f args v) (ha:xs.toList.map (ev env)=args)
 (hw:bf ops env o=some true) (k:RegX P ops d (aE d o [] [] acc) os (bg env o.dst v) n L R):CallG P ops d acc o f xs os env n L R:=by
 refine⟨λ⟨ts,ho⟩=>?_⟩;have h:=XT.op (n:=n) (L:=[]) (env:=env) ho rfl (by rw[ha];exact hx);exact RegX.op (foot:=[]) (wr:=[]) hw h (Z02 _) k
theorem RegX.nilF (h2:R .normal env n L):RegX P ops false acc [] env n L R:=RegX.nil (by trivial) h2
theorem RegX.nilT (h1:jf ops acc.reverse=true) (h2:R .normal env n L):RegX P ops true acc [] env n L R:=RegX.nil h1 h2
structure BrG (t:Bool) (K:Bool->Prop):Prop where
 k:K t
theorem CmpG.go {foot:List Nat} {t:Bool} {as_:List Ans} (hw:bf ops env o=some true) (h:GA P o env n L []=some ⟨⟨foot,.s (.bool t),wr,n'⟩,as_,C⟩) (hC:C)
 (k:BrG t λt=>RegX P ops d (aE d o foot wr acc) os (bg env o.dst (.s (.bool t))) n' (aA L wr) R):CmpG P ops d acc o os env n L R:=⟨mo [] hw h hC k.k⟩
theorem BrG.tt (h:K true):BrG true K:=⟨h⟩
theorem BrG.ff (h:K false):BrG false K:=⟨h⟩
theorem BrG.of {t:Bool} (hp:t=true↔p) (h1:p->K true) (h2: ¬p->K false):BrG t K:=by
 cases t with
 |true=>exact⟨h1 (hp.1 rfl)⟩
 |false=>exact⟨h2 λe=>by have:=hp.2 e;cases this⟩
theorem BrG.neS {a b:List UInt8} (h1: ¬a=b->K true) (h2:a=b->K false):BrG (!decide (a=b)) K:=BrG.of aq h1 λh=>h2 (Z4c.1 h)
theorem BrG.any {t:Bool} (h1:t=true->K true) (h2:t=false->K false):BrG t K:=by
 cases t with
 |true=>exact⟨h1 rfl⟩
 |false=>exact⟨h2 rfl⟩
theorem CallG.bo {args:List V} {t:Bool} (sc:FC P f args 0 [] (.s (.bool t)) 0 []) (ha:xs.toList.map (ev env)=args) (h1:args.all (fI 0)=true)
 (hw:bf ops env o=some true) (k:BrG t λt=>RegX P ops d (aE d o [] [] acc) os (bg env o.dst (.s (.bool t))) n L R):CallG P ops d acc o f xs os env n L R:=CallG.pu sc ha h1 rfl hw k.k
theorem CallG.wb {args:List V} {t:Bool} (sc:FC P f args 0 [] (.s (.bool t)) 0 []) {args1:List V} (ha:xs.toList.map (ev env)=args1) (hle:All2 VLe args1 args) (h1:args.all (fI 0)=true)
 (hw:bf ops env o=some true) (k:BrG t λt=>RegX P ops d (aE d o [] [] acc) os (bg env o.dst (.s (.bool t))) n L R):CallG P ops d acc o f xs os env n L R:=sC sc ha hle h1 rfl hw k.k
theorem Then.normal {b:Nat} {e:List V} (h:Ex P b y e n L R):Then P b y R .normal e n L:=h
theorem InBlock.normal {e:List V} (h:R .normal e n L):InBlock i R .normal e n L:=h
theorem InBlock.exit {j:Nat} {e:List V} (h:match Nat.beq j i with|true=>R .normal e n L|false=>R (.exit j) e n L):InBlock i R (.exit j) e n L:=h
theorem InBlock.here {e:List V} (h:R .normal e n L):InBlock i R (.exit i) e n L:=by
 show (match Nat.beq i i with|true=>R .normal e n L|false=>R (.exit i) e n L);rw[Z2n];exact h
end
def IL (P:Program) (b:Nat):Code->List V->Nat->Hp->Post->Option Prop
 | .seq x y,e,n,L,R=>some (Ex P b x e n L (Then P b y R))
 | .block id c,e,n,L,R=>some (Ex P b c e n L (InBlock id R))
 | .skip,e,n,L,R=>some (R .normal e n L)
 | .region _ ops d,e,n,L,R=>some (RegX P ops d [] ops.toList e n L R)
 |_,_,_,_,_=>none
def IK (P:Program) (b:Nat):Code->List V->Nat->Hp->Post->Option Prop
 | .cond c x y,e,n,L,R=>match ev e c with| .s (.bool true)=>some (Ex P b x e n L R)| .s (.bool false)=>some (Ex P b y e n L R)|_=>none
 |_,_,_,_,_=>none
theorem Ex.s {b:Nat} (hm:P.follows .mixedOrders=true) {e:List V} (h:IL P b c e n L R=some G) (k:G):Ex P b c e n L R:=by
 unfold IL at h;split at h
 ·cases h;exact Ex.seq k
 ·cases h;exact Ex.block k
 ·cases h;exact Ex.skip k
 ·cases h;exact Ex.reg hm k
 ·cases h
theorem Ex.d {b:Nat} {e:List V} (h:IK P b c e n L R=some G) (k:G):Ex P b c e n L R:=by
 unfold IK at h;split at h
 ·split at h
  ·cases h;exact Ex.condT ‹_› k
  ·cases h;exact Ex.condF ‹_› k
  ·cases h
 ·cases h
class SgE (Q:Prop) (Q':outParam Prop):Prop where
 go:Q'->Q
class SgL (Q:Prop) (Q':outParam Prop):Prop where
 go:Q'->Q
section
variable {P:Program} {b:Nat} {y:Code} {R:Post} {e:List V} {n i j:Nat} {L:Hp}
instance:SgE (Then P b y R .normal e n L) (Ex P b y e n L R):=⟨id⟩
instance {ops:Array Oper} {acc:List Row} {env:List V}:SgE (RegX P ops false acc [] env n L R) (R .normal env n L):=⟨RegX.nilF⟩
instance {K:Bool->Prop}:SgE (BrG true K) (K true):=⟨BrG.tt⟩
instance {K:Bool->Prop}:SgE (BrG false K) (K false):=⟨BrG.ff⟩
instance:SgL (Then P b y R (.exit i) e n L) (R (.exit i) e n L):=⟨id⟩
instance:SgL (Then P b y R .ret e n L) (R .ret e n L):=⟨id⟩
instance:SgL (InBlock i R .normal e n L) (R .normal e n L):=⟨id⟩
instance:SgL (InBlock i R (.exit i) e n L) (R .normal e n L):=⟨InBlock.here⟩
instance:SgL (InBlock i R .ret e n L) (R .ret e n L):=⟨id⟩
instance:SgL (Ex P b .ret e n L R) (R .ret e n L):=⟨Ex.ret⟩
instance:SgL (Ex P b (.exit i) e n L R) (R (.exit i) e n L):=⟨Ex.exit⟩
variable {σ:Type} {m m':Nat} {A:List Nat} {X:σ->List (Nat×V)} {env:List V} {H:σ->Hp} {I:σ->Prop} {mu:σ->Nat} {s:σ} {M:Hp}
instance:SgL (xz b m A X env H I mu s R (.exit i) e m' M) (R (.exit i) e m' M):=⟨id⟩
instance:SgL (xz b m A X env H I mu s R .ret e m' M) (R .ret e m' M):=⟨id⟩
theorem sE {Q Q':Prop} [g:SgE Q Q'] (h:Q'):Q:=g.go h
theorem sL {Q Q':Prop} [g:SgL Q Q'] (h:Q'):Q:=g.go h
variable {ops:Array Oper} {d:Bool} {acc:List Row} {os:List Oper} {xs:Array Operand} {ts:Array TypeId} {f:FuncId} {dst:Option Tmp} {op:BinOp} {ty ty' t:TypeId} {u v:Operand} {pos:String} {af:Array Edge} {gd:Option (Nat×Bool)}
theorem wC (h:CallG P ops d acc ⟨dst,.call ⟨.value (.func f),xs,ts⟩,t,pos,af,gd⟩ f xs os env n L R):RegX P ops d acc (⟨dst,.call ⟨.value (.func f),xs,ts⟩,t,pos,af,gd⟩::os) env n L R:=RegX.atCall h
theorem wq {foot:List Nat} {tt:Bool} {as_:List Ans} (hw:bf ops env ⟨dst,.binOp op ty u v ty',t,pos,af,gd⟩=some true) (h:GA P ⟨dst,.binOp op ty u v ty',t,pos,af,gd⟩ env n L []=some ⟨⟨foot,.s (.bool tt),wr,n'⟩,as_,C⟩) (hC:C)
 (k:BrG tt λtt=>RegX P ops d (aE d ⟨dst,.binOp op ty u v ty',t,pos,af,gd⟩ foot wr acc) os (bg env dst (.s (.bool tt))) n' (aA L wr) R):RegX P ops d acc (⟨dst,.binOp op ty u v ty',t,pos,af,gd⟩::os) env n L R:=RegX.atCmp (CmpG.go hw h hC k)
theorem wk {a:List Row} {os':List Oper} {e:List V} (h:je P ops d env false os acc [] n L=some (a,os',e,m,M,C)) (hC:C) (k:RegX P ops d a os' e m M R):RegX P ops d acc os env n L R:=RegX.chunk h hC k
theorem wc {c:Operand} {x:Code} {t:Bool} (hc:ev env c=.s (.bool t)) (h1:t=true->Ex P b x env n L R) (h2:t=false->Ex P b y env n L R):Ex P b (.cond c x y) env n L R:=Ex.condS hc h1 h2
theorem wN (h1:jf ops acc.reverse=true) (h2:R .normal env n L):RegX P ops true acc [] env n L R:=RegX.nilT h1 h2
end
class DecP (t:Bool) (p q:outParam Prop):Prop where
 yes:t=true->p
 no:t=false->q
instance (priority:=low) DecP.any (t:Bool):DecP t (t=true) (t=false):=⟨id,id⟩
instance DecP.eqI (a b:Int):DecP (a==b) (a=b) (¬a=b):=⟨λh=>beq_iff_eq.1 h,λh e=>by rw[beq_iff_eq.2 e] at h;cases h⟩
instance DecP.neI (a b:Int):DecP (a !=b) (¬a=b) (a=b):=⟨λh=>bne_iff_ne.1 h,λh=>Z4o λe=>by rw[bne_iff_ne.2 e] at h;cases h⟩
instance DecP.dec (p:Prop) [Decidable p]:DecP (decide p) p (¬p):=⟨of_decide_eq_true,of_decide_eq_false⟩
instance DecP.neS (a b:List UInt8):DecP (!decide (a=b)) (¬a=b) (a=b):=⟨λh=>by simpa using h,λh=>by simpa using h⟩
theorem wb {t:Bool} [d:DecP t p q] (h1:p->K true) (h2:q->K false):BrG t K:=by
 cases t with
 |true=>exact⟨h1 (d.yes rfl)⟩
 |false=>exact⟨h2 (d.no rfl)⟩
section
variable {P:Program} {ops:Array Oper} {d:Bool} {acc:List Row} {os:List Oper} {o:Oper} {env:List V} {n:Nat} {L:Hp} {R:Post} {f:FuncId} {xs:Array Operand}
theorem bo {args:List V} {t:Bool} (sc:FC P f args 0 [] (.s (.bool t)) 0 []) (k:BrG t λt=>RegX P ops d (aE d o [] [] acc) os (bg env o.dst (.s (.bool t))) n L R) (ha:xs.toList.map (ev env)=args:=by exact rfl) (h1:args.all (fI 0)=true:=by exact rfl) (hw:bf ops env o=some true:=by exact rfl):CallG P ops d acc o f xs os env n L R:=CallG.bo sc ha h1 hw k
theorem cm {args0:List V} {v0:V} (sc:FC P f args0 1 L0 v0 n0' L0') {args1:List V} {v:V} (k:RegX P ops d (aE d o [0] wr acc) os (bg env o.dst v) (n+(n0'-1)) (aA L wr) R)
 (hchk:(args0.all (fI 1)&&fg 1 L0&&ep L0 L0'&&co (bP L0')&&Nat.ble 1 n0'&&qW [0] n n0'&&ry [0] L0)=true:=by exact rfl) (ha:xs.toList.map (ev env)=args1:=by exact rfl) (hle:All2 VLe args1 (args0.map (cb (rn [0] n))):=by (repeat first|exact trivial|refine⟨ah _,?_⟩);first|done|fail) (ft:FitP [0] n (res [0] L) L0:=by exact⟨⟨rfl,_,rfl,rfl,λh=>h⟩,trivial⟩)
 (hw:bf ops env o=some true:=by exact rfl) (hv:jg (cb (rn [0] n) v0) some=some v:=by exact rfl) (hwr:l6 (cj [0] n L0 L0') [] some=some wr:=by exact rfl):CallG P ops d acc o f xs os env n L R:=Zgm [0] sc hchk ha hle ft hw hv hwr k
end
structure Bth (A B:Prop):Prop where
 a:A
 b:B
structure Wh (p A:Prop):Prop where
 k:p->A
structure Wn (p A:Prop):Prop where
 k:p->A
theorem yX {A:Prop} (h:p->False):Wh p A:=⟨λx=>(h x).elim⟩
theorem wbP {t:Bool} [DecP t p q] (k:Bth (Wh p (K true)) (Wh q (K false))):BrG t K:=wb k.a.k k.b.k
theorem wkP {ops:Array Oper} {d:Bool} {acc:List Row} {os:List Oper} {env:List V} {a:List Row} {os':List Oper} {e:List V} (h:je P ops d env false os acc [] n L=some (a,os',e,m,M,C)) (k:Bth C (RegX P ops d a os' e m M R)):RegX P ops d acc os env n L R:=wk h k.a k.b
theorem wcP {b:Nat} {env:List V} {c:Operand} {x:Code} {t:Bool} (hc:ev env c=.s (.bool t)) (k:Bth (Wn (t=true) (Ex P b x env n L R)) (Wn (t=false) (Ex P b y env n L R))):Ex P b (.cond c x y) env n L R:=wc hc k.a.k k.b.k
theorem wX {ops:Array Oper} {d:Bool} {acc:List Row} {os:List Oper} {env:List V} {xs:Array Operand} {ts:Array TypeId} {t:TypeId} (h:CallG P ops d acc ⟨dst,.call ⟨.value (.func f),xs,ts⟩,t,pos,af,gd⟩ f xs os env n L R):RegX P ops d acc (⟨dst,.call ⟨.value (.func f),xs,ts⟩,t,pos,af,gd⟩::os) env n L R:=RegX.atCall h
section
variable {P:Program} {ops:Array Oper} {d:Bool} {acc:List Row} {os:List Oper} {env:List V} {n:Nat} {L:Hp} {R:Post} {f:FuncId} {xs:Array Operand} {ts:Array TypeId} {dst:Option Tmp} {t:TypeId} {pos:String} {af:Array Edge} {gd:Option (Nat×Bool)}
theorem an {args:List V} {v:V} (sc:FC P f args 0 [] v 0 []) (k:RegX P ops d (aE d ⟨dst,.call ⟨.value (.func f),xs,ts⟩,t,pos,af,gd⟩ [] [] acc) os (bg env dst v) n L R) (ha:xs.toList.map (ev env)=args:=by exact rfl) (h1:args.all (fI 0)=true:=by exact rfl) (h2:fI 0 v=true:=by exact rfl) (hw:bf ops env ⟨dst,.call ⟨.value (.func f),xs,ts⟩,t,pos,af,gd⟩=some true:=by exact rfl):RegX P ops d acc (⟨dst,.call ⟨.value (.func f),xs,ts⟩,t,pos,af,gd⟩::os) env n L R:=wX (CallG.pu sc ha h1 h2 hw k)
theorem bG {args:List V} {b:Bool} (sc:FC P f args 0 [] (.s (.bool b)) 0 []) (k:BrG b λb=>RegX P ops d (aE d ⟨dst,.call ⟨.value (.func f),xs,ts⟩,t,pos,af,gd⟩ [] [] acc) os (bg env dst (.s (.bool b))) n L R) (ha:xs.toList.map (ev env)=args:=by exact rfl) (h1:args.all (fI 0)=true:=by exact rfl) (hw:bf ops env ⟨dst,.call ⟨.value (.func f),xs,ts⟩,t,pos,af,gd⟩=some true:=by exact rfl):RegX P ops d acc (⟨dst,.call ⟨.value (.func f),xs,ts⟩,t,pos,af,gd⟩::os) env n L R:=wX (CallG.bo sc ha h1 hw k)
theorem aQ {args0:List V} {v0:V} (sc:FC P f args0 1 L0 v0 n0' L0') {args1:List V} {v:V} (k:RegX P ops d (aE d ⟨dst,.call ⟨.value (.func f),xs,ts⟩,t,pos,af,gd⟩ [0] wr acc) os (bg env dst v) (n+(n0'-1)) (aA L wr) R)
 (hchk:(args0.all (fI 1)&&fg 1 L0&&ep L0 L0'&&co (bP L0')&&Nat.ble 1 n0'&&qW [0] n n0'&&ry [0] L0)=true:=by exact rfl) (ha:xs.toList.map (ev env)=args1:=by exact rfl) (hle:All2 VLe args1 (args0.map (cb (rn [0] n))):=by (repeat first|exact trivial|refine⟨ah _,?_⟩);first|done|fail) (ft:FitP [0] n (res [0] L) L0:=by exact⟨⟨rfl,_,rfl,rfl,λh=>h⟩,trivial⟩)
 (hw:bf ops env ⟨dst,.call ⟨.value (.func f),xs,ts⟩,t,pos,af,gd⟩=some true:=by exact rfl) (hv:jg (cb (rn [0] n) v0) some=some v:=by exact rfl) (hwr:l6 (cj [0] n L0 L0') [] some=some wr:=by exact rfl):RegX P ops d acc (⟨dst,.call ⟨.value (.func f),xs,ts⟩,t,pos,af,gd⟩::os) env n L R:=wX (Zgm [0] sc hchk ha hle ft hw hv hwr k)
end
theorem wW {fn:Func} {args:List V} {v:V} {L':Hp} {env:List V} (hf:P.funcs[f]? =some fn) (h:Ex P n c env n L (Fin P fn n v n' L')) (hok:oz P f=true:=by kernel_rfl) (hb:fn.body=some c:=by exact rfl) (he:args++List.replicate (fn.ntmps-args.length) .undef=env:=by exact rfl):FC P f args n L v n' L':=FC.walk hok hf hb he h
theorem prL {A:Prop} (h:p->False) (k:B):Bth (Wh p A) B:=⟨yX h,k⟩
theorem prR {A:Prop} (h:q->False) (k:A):Bth A (Wh q B):=⟨k,yX h⟩
theorem prN {A:Prop} (h:q->False) (k:True):Wh q A:=yX h
theorem y1 (k:G') (h:G'->G:=by first|exact sE|exact Ex.s hm rfl|exact wbP|((with_reducible refine prL ?_);intro h;first|contradiction|(exfalso;omega))|((with_reducible refine prR ?_);intro h;first|contradiction|(exfalso;omega))|((with_reducible refine prN ?_);intro h;first|contradiction|(exfalso;omega))|fail):G:=h k
theorem yA (k:G') (h:G'->G:=by first|exact sE|exact Ex.s hm rfl|exact wbP|((with_reducible refine prL ?_);intro h;first|contradiction|(exfalso;omega))|((with_reducible refine prR ?_);intro h;first|contradiction|(exfalso;omega))|((with_reducible refine prN ?_);intro h;first|contradiction|(exfalso;omega))|exact wq rfl rfl trivial|exact wkP rfl|exact Ex.d rfl|exact wN aK|exact sL|with_reducible exact w6 rfl|exact wcP rfl|fail):G:=h k
theorem y2 {A:Prop} (a:A) (b:B) (h:A->B->G:=by with_reducible first|exact And.intro|exact Bth.mk):G:=h a b
theorem y3 (k:G') (h:G'->G:=by first|exact wq rfl rfl trivial|exact wkP rfl|exact Ex.d rfl|exact wN aK|exact sL|with_reducible exact w6 rfl|exact wcP rfl):G:=h k
theorem y4 {A:Prop} (k:p->A) (h:(p->A)->G:=by with_reducible first|exact Wh.mk|exact Wn.mk):G:=h k
theorem y5 (h:G:=by first|(with_reducible first|exact Z0o|exact aB aa aa|exact aU aa aa)|omega|rfl|(simp only[Z0p,Z0c];omega)):G:=h
theorem aP (h:G:=by (repeat first|exact trivial|refine⟨ah _,?_⟩);first|done|fail):G:=h
theorem pi (h:G:=by (repeat first|exact trivial|refine⟨⟨rfl,_,rfl,rfl,λh=>h⟩,?_⟩|refine⟨⟨rfl,_,rfl,rfl,λ_=>rfl⟩,?_⟩|refine mp rfl rfl ?_);first|done|fail):G:=h
theorem bK (h:G:=by exact⟨.inl rfl,_,[],ah _,fY rfl (by (repeat first|exact trivial|refine⟨rfl,?_⟩);first|done|fail) rfl rfl rfl rfl⟩):G:=h
section
variable {P:Program} {ops:Array Oper} {d:Bool} {acc:List Row} {o:Oper} {f:FuncId} {xs:Array Operand} {os:List Oper} {env:List V} {n:Nat} {L:Hp} {R:Post}
theorem bD (tbl:List Nat) {args0:List V} {v0:V} (sc:FC P f args0 tbl.length L0 v0 n0' L0') {args1:List V} {v:V} (k:RegX P ops d (aE d o tbl wr acc) os (bg env o.dst v) (n+(n0'-tbl.length)) (aA L wr) R)
 (hchk:(args0.all (fI tbl.length)&&fg tbl.length L0&&ep L0 L0'&&co (bP L0')&&Nat.ble tbl.length n0'&&qW tbl n n0'&&ry tbl L0)=true:=by exact rfl) (ha:xs.toList.map (ev env)=args1:=by exact rfl) (hle:All2 VLe args1 (args0.map (cb (rn tbl n))):=by (repeat first|exact trivial|refine⟨ah _,?_⟩);first|done|fail) (ft:FitP tbl n (res tbl L) L0:=by (repeat first|exact trivial|refine⟨⟨rfl,_,rfl,rfl,λh=>h⟩,?_⟩|refine⟨⟨rfl,_,rfl,rfl,λ_=>rfl⟩,?_⟩|refine mp rfl rfl ?_);first|done|fail)
 (hw:bf ops env o=some true:=by exact rfl) (hv:jg (cb (rn tbl n) v0) some=some v:=by exact rfl) (hwr:l6 (cj tbl n L0 L0') [] some=some wr:=by exact rfl):CallG P ops d acc o f xs os env n L R:=Zgm tbl sc hchk ha hle ft hw hv hwr k
end
end
end Ab
section
open Go Ab
abbrev FQ:=FC Tryz.prog
theorem hm:Tryz.prog.follows .mixedOrders=true:=by decide+kernel
abbrev By:=List UInt8
abbrev nI (z:Int):V:=.s (.int .i64 z)
abbrev n8 (z:Int):V:=.s (.int .u8 z)
abbrev bV (b:Bool):V:=.s (.bool b)
abbrev sV (s:By):V:=.s (.str s)
def cJ (op:Int):Bool:=decide (op=1)||decide (op=2)||decide (op=50)||decide (op=51)
def dy (op:Int):Bool:=decide (op=18)||decide (op=19)
def gK (op:Int):Bool:=decide (op=3)||decide (op=5)||decide (op=6)||decide (op=7)||decide (op=41)||decide (op=42)||cJ op||(decide (60<=op)&&decide (op<=88))
def bH (k op:Int):Bool:=
 if k=110\/k=115 then decide (op=3)
 else if k=105\/k=73 then decide (op=1)
 else if k=101 then gK op
 else if k=116 then decide (op=3)||decide (op=6)||decide (op=7)||decide (op=76)||decide (op=84)
 else if k=100 then cJ op
 else if k=80 then cJ op||decide (op=3)
 else if k=68 then decide (10<=op)&&decide (op<=21)&& !dy op
 else if k=70 then dy op
 else if k=83 then (decide (30<=op)&&decide (op<=42))||decide (op=5)
 else false
theorem EC (op:Int):FC Tryz.prog 253 [nI op] 0 [] (bV (dy op)) 0 []:=by
 refine wW Tryz.func253 ?_
 repeat'(first|refine y1 ?_|refine y2 ?_ ?_|refine y4 λh=>?_|refine cL (.inl rfl) rfl ?_|refine y3 ?_|exact y5|fail)
 all_goals simp[dy, *]
theorem wo (op:Int):FC Tryz.prog 252 [nI op] 0 [] (bV (cJ op)) 0 []:=by
 refine wW Tryz.func252 ?_
 repeat'(first|refine y1 ?_|refine y2 ?_ ?_|refine y4 λh=>?_|refine cL (.inl rfl) rfl ?_|refine y3 ?_|exact y5|fail)
 all_goals simp[cJ, *]
theorem EB (op:Int):FC Tryz.prog 251 [nI op] 0 [] (bV (gK op)) 0 []:=by
 refine wW Tryz.func251 ?_
 repeat'(first|refine y1 ?_|refine y2 ?_ ?_|refine y4 λh=>?_|refine bG (wo _) ?_|refine cL (.inl rfl) rfl ?_|refine y3 ?_|exact y5|fail)
 all_goals simp[gK, *]
theorem Jm (k op:Int):FC Tryz.prog 222 [n8 k,nI op] 0 [] (bV (bH k op)) 0 []:=by
 refine wW Tryz.func222 ?_
 repeat'(first|refine y1 ?_|refine y2 ?_ ?_|refine y4 λh=>?_|refine bG (wo _) ?_|refine bG (EB _) ?_|refine bG (EC _) ?_|refine cL (.inl rfl) rfl ?_|refine y3 ?_|exact y5|fail)
 all_goals simp[bH, *]
