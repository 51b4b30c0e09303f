import Derived.Test.YtegjgpldfgjoiaaGreatDoorCnM08
set_option linter.all false
namespace Go.Proofs.YtegjgpldfgjoiaaGreatDoor
namespace Ab
open Go
section
variable {φ:Ph} {n sz:Nat} {P:Program}
theorem lN {get:Nat->List S} {v:Value} (h:Sr φ (.frz get sz n) v):∃ a k,v=.slice a n k:=by
 cases h with
 |nil get sz a k=>exact⟨a,k,rfl⟩
 |frz get sz n b o k vs h1 hn val hl hv hx=>exact⟨_,k,rfl⟩
def xd:V->Option Nat
 | .s (.frz _ _ n)=>some n
 | .s (.row _ _ n)=>some n
 |_=>none
theorem Am {x:V} (h:xd x=some n) {u:Value} (hu:Vr φ x u):∃ a k,u=.slice a n k:=by
 unfold xd at h;split at h
 ·cases h;exact lN hu
 ·cases h
  rcases hu with ⟨rfl,hu⟩|⟨_,b,k,_,_,hu,_⟩
  ·exact⟨_,_,hu⟩
  ·exact⟨_,_,hu⟩
 ·cases h
theorem Cz {get:Nat->List S} {k:Nat} {v:Value} (h:Sr φ (.frz get sz n) v) (hk:k<n):∃ b o c,v=.slice (some ⟨b,o,none⟩) n c/\Sr φ (.fpt (get k) 0) (.pointer (some ⟨b,o+k*sz,none⟩)):=by
 cases h with
 |nil get sz a c=>omega
 |frz get sz n b o c vs h1 hn val hl hv hx=>
  exact⟨b,o,c,rfl,b,o+k*sz,vs,h1,rfl,λi x hi=>⟨val k i,by rw[Z52];exact hv k i x hk hi,hx k i x hk hi⟩⟩
def yi (agg:Bool) (sz:Nat) (cs:List S) (j:Nat):Option V:=
 match agg with
 |true=>match Nat.ble (j+sz) cs.length with|true=>some (.agg ((cs.drop j).take sz))|false=>none
 |false=>match cs[j]? with|some x=>some (.s x)|none=>none
theorem xM {L:Hp} {w:World} (hg:Good φ L w) {cs:List S} {j:Nat} {u:Value} (hu:Sr φ (.fpt cs j) u) {t:TypeId} {ag:Bool} (ht:y8 P t=some (ag,sz)) {v:V} (hv:yi ag sz cs j=some v):
 ∃ a,u=.pointer (some a)/\∃ x,(loadVar t a).run P w=.ok x w/\Vr φ v x:=by
 obtain⟨b,o,vs,hz,rfl,hx⟩:=hu;obtain⟨⟨ty,fr,hb⟩,_⟩:=hg.fz b vs hz;refine⟨_,rfl,?_⟩
 have hagg:(isAgg t).run P w=.ok ag w/\(ag=true->(sizeOf t).run P w=.ok sz w):=by
  unfold y8 at ht;simp only[isAgg,sizeOf,typeInfo,underlying,Z09,run_program,Z05]
  cases hu:P.underlying t with
  |none=>simp[hu] at ht
  |some d=>
   simp only[hu] at ht |-
   cases hi:P.info? t with
   |none=>rw[hi] at ht;cases d<;>simp at ht
   |some i=>rw[hi] at ht;cases d<;>simp at ht<;>obtain⟨rfl,rfl⟩:=ht<;>simp
 have cell:∀ i x,cs[i]? =some x->∃ y,w.cell? ⟨b,o+i,none⟩=some y/\Sr φ x y:=by
  intro i x hi;obtain⟨y,hy,hp⟩:=hx i x hi;exact⟨y,by simp only[World.cell?,hb,Z2b,Z0l,if_false,Z1a];exact hy,hp.sr⟩
 unfold yi at hv
 cases ag with
 |true=>
  simp only[] at hv
  cases hle:Nat.ble (j+sz) cs.length with
  |false=>rw[hle] at hv;cases hv
  |true=>
   rw[hle] at hv;simp only[Z06] at hv;subst hv;have hle':=Z1y hle
   have ex:∀ (l:List S) (k:Nat),(∀ i x,l[i]? =some x->cs[k+i]? =some x)->∃ ys:List Value,All2 (Sr φ) l ys/\∀ i y,ys[i]? =some y->w.cell? ⟨b,o+(k+i),none⟩=some y:=by
    intro l
    induction l with
    |nil=>intro k _;exact⟨[],trivial,λi y h=>by simp at h⟩
    |cons x t ih=>
     intro k hk;obtain⟨y,hy,hs⟩:=cell k x (by simpa using hk 0 x rfl)
     obtain⟨ys,hys,hc⟩:=ih (k+1) λi z hi=>by rw[show k+1+i=k+(i+1) by omega];exact hk (i+1) z (by simpa using hi)
     refine⟨y::ys,⟨hs,hys⟩,λi z hi=>?_⟩
     cases i with
     |zero=>simp at hi;subst hi;exact hy
     |succ i=>rw[show k+(i+1)=k+1+i by omega];exact hc i z (by simpa using hi)
   obtain⟨ys,hys,hc⟩:=ex ((cs.drop j).take sz) j λi x hi=>by
    simp only[Z2w,Z2k] at hi;split at hi
    ·exact hi
    ·cases hi
   refine⟨.agg ys.toArray,?_,ys,rfl,hys⟩
   have hlen:ys.length=sz:=by rw[hys.len];simp;omega
   have hld:=bg (P:=P) (w:=w) (b:=b) (o:=o+j) ys 0 #[] (by
    intro i v hi
    rw[Z0c,Z52];exact hc i v hi)
   rw[hlen] at hld;simp only[loadVar,Z09,hagg.1,Z05,if_true,hagg.2 rfl,loadCells,hld,Z0f];simp
 |false=>
  simp only[] at hv
  cases hc:cs[j]? with
  |none=>rw[hc] at hv;cases hv
  |some y=>
   rw[hc] at hv;simp only[Z06] at hv;subst hv;obtain⟨x,hxv,hs⟩:=cell j y hc;refine⟨x,?_,hs⟩;simp only[loadVar,Z09,hagg.1,Z05,Z0l,if_false,run_load,hxv]
def JU:Option V->Option (List Ans)
 |none=>some []
 |some (.s (.int _ (.ofNat k)))=>some [.idx k]
 |_=>none
def Al:Option V->Nat->Option Nat
 |none,d=>some d
 |some (.s (.int _ (.ofNat k))),_=>some k
 |_,_=>none
def mR (P:Program) (o:Oper) (e:Operand->V) (n:Nat) (L:Hp) (ans:List Ans):Option Out:=
 match o.op with
 | .move x=>lt n (e x) ans True
 | .assign x=>lt n (e x) ans True
 | .pick c a b=>
   match e c with
   | .s (.bool t)=>match t with|true=>lt n (e a) ans True|false=>lt n (e b) ans True
   |_=>none
 | .binOp op t x y _=>oe n (yU P op t (gT (e x)) (gT (e y)) ans)
 | .unOp op _ x=>oe n (aUn op (e x) ans)
 | .convert src dst x=>
   match P.underlying src,P.underlying dst with
   |some (.slice _),some .string=>sJ P n L src dst (gT (e x)) ans
   |some .string,some (.slice _)=>lf P n src dst (e x) ans
   |_,_=>oe n (sN P src dst (e x) ans)
 | .makeSlice t l c=>yS P n t (e l) (e c) ans
 | .slice t x lo hi mx=>
   match ans with
   | .win k h cs::as_=>DT P n L t (e x) (lo.map e) (hi.map e) (mx.map e) k h cs as_
   | .wlz k h::as_=>vn P n t (e x) (lo.map e) (hi.map e) (mx.map e) k h as_
   |ans=>pi P n t (gT (e x)) (lo.map λy=>gT (e y)) (hi.map λy=>gT (e y)) (mx.map λy=>gT (e y)) ans
 | .build t parts=>sO P n t (parts.toList.map λ(i,x)=>(i,e x)) ans
 | .buildSlice t len parts=>gm P n t len (parts.toList.map λ(i,x)=>(i,e x)) ans
 | .field t x f=>nz P n t (e x) f ans
 | .extract x i=>match Gf (e x) i with|some v=>lt n v ans True|none=>none
 | .load t a=>yT P n L t (e a) ans
 | .store t a x=>
   match ans with
   | .stw cs cells::as_=>ny P n L t (e a) (e x) cs cells as_
   |ans=>mc P n L t (e a) (e x) ans
 | .alloc t=>sQ P n t ans
 | .box t x=>Gh n t (e x) ans
 | .fieldAddr s x f=>sM P n s (e x) f ans
 | .indexAddr t x ix=>ig P n t (gT (e x)) (gT (e ix)) ans
 | .index t x ix=>sK P n t (e x) (e ix) ans
 | .nilCheck x=>Ga n (e x) ans
 | .call c=>
   match c.callee with
   | .value (.func f)=>
     match ans with
     | .ext args0 v::as_=>iR v λv=>some ⟨⟨[],v,[],n⟩,as_,c.args.toList.map e=args0/\XT P f args0 v⟩
     | .callw tbl args0 L0 v0 n0' L0'::as_=>qE P f (c.args.toList.map λy=>gT (e y)) n L (.call tbl args0 L0 v0 n0' L0'::as_)
     |ans=>qE P f (c.args.toList.map e) n L ans
   | .builtin b=>lg P b c.argTypes n L (c.args.toList.map e) ans
   |_=>none
 |_=>none
theorem F6 (P:Program) (o:Oper) (env:List V) (n:Nat) (L:Hp) (ans:List Ans):mR P o (ev env) n L ans=Eh P o env n L ans:=by
 unfold mR Eh kD;rfl
def DH (P:Program) (o:Oper) (e:Operand->V) (n:Nat) (L:Hp):Option Out:=
 match o.op with
 | .indexAddr t x ix=>
   match e ix with
   | .s (.int _ (.ofNat k))=>
     match e x with
     | .s (.frz get sz m)=>
       match P.underlying t with
       |some (.slice el)=>
        match ct P el with
        |some sz'=>match Nat.beq sz sz' with|true=>li (get k) [] λcs=>some ⟨⟨[],.s (.fpt cs 0),[],n⟩,[],k<m⟩|false=>none
        |none=>none
       |_=>none
     | .s (.gp g off)=>
       match P.underlying t with
       |some (.array len el)=>match ct P el with|some sz=>some ⟨⟨[],.s (.gp g (bJ off (bG k sz))),[],n⟩,[],k<len⟩|none=>none
       |_=>none
     |_=>mR P o e n L [.idx k]
   |_=>none
 | .index _ _ ix=>
   match e ix with
   | .s (.int _ (.ofNat k))=>mR P o e n L [.idx k]
   |_=>none
 | .fieldAddr s x f=>
   match e x with
   | .s (.fpt cs j)=>match iV P s f with|some off=>some ⟨⟨[],.s (.fpt cs (bJ j off)),[],n⟩,[],True⟩|none=>none
   | .s (.gp g j)=>match iV P s f with|some off=>some ⟨⟨[],.s (.gp g (bJ j off)),[],n⟩,[],True⟩|none=>none
   |_=>mR P o e n L []
 | .load t a=>
   match e a with
   | .s (.fpt cs j)=>
     match y8 P t with
     |some (ag,sz)=>match yi ag sz cs j with|some v=>iR v λv=>some ⟨⟨[],v,[],n⟩,[],True⟩|none=>none
     |none=>none
   | .s (.gp g j)=>
     match y8 P t,GS g with
     |some (ag,sz),some cs=>match yi ag sz cs j with|some v=>iR v λv=>some ⟨⟨[],v,[],n⟩,[],True⟩|none=>none
     |_,_=>none
   |_=>mR P o e n L []
 | .nilCheck x=>
   match e x with
   | .s (.fpt cs j)=>some ⟨⟨[],.s (.fpt cs j),[],n⟩,[],True⟩
   |_=>mR P o e n L []
 | .slice t x lo hi mx=>
   match e x with
   | .s (.str _)=>
     match JU (hi.map e),JU (lo.map e) with
     |some a,some b=>mR P o e n L (a++b)
     |_,_=>none
   | .s (.frz get sz m)=>
     match mx,P.underlying t with
     |none,some (.slice el)=>
      match ct P el,Al (lo.map e) 0,Al (hi.map e) m with
      |some sz',some k,some h=>
       match Nat.beq sz sz' with
       |true=>some ⟨⟨[],.s (.frz (match lo with|none=>get|some _=>λi=>get (k+i)) sz (match lo with|none=>h|some _=>h-k)),[],n⟩,[],k<=h/\h<=m⟩
       |false=>none
      |_,_,_=>none
     |_,_=>none
   |_=>mR P o e n L []
 | .call c=>
   match c.callee with
   | .builtin .len=>
     match c.args.toList with
     |[x]=>
      match xd (e x) with
      |some m=>
       match c.argTypes[0]? with
       |some t=>match P.underlying t with|some (.slice _)=>some ⟨⟨[],.s (.int .i64 (m:Int)),[],n⟩,[],True⟩|_=>none
       |none=>none
      |none=>mR P o e n L []
     |_=>none
   |_=>mR P o e n L []
 |_=>mR P o e n L []
def F5 (P:Program) (o:Oper) (env:List V) (n:Nat) (L:Hp):Option Out:=DH P o (ev env) n L
theorem yH {w:World} {a:Act} {env:List V} {x:Option Operand} (hx:∀ y,x=some y->Vr φ (ev env y) (a.eval y)) {dflt top k:Nat} (code:BoundsCode) (h:Al (x.map (ev env)) dflt=some k) (hk:k<=top):
 (match x.map a.eval with|some v=>Instr.sliceBound v top code|none=>pure dflt).run P w=.ok k w:=by
 cases x with
 |none=>simp only[Z2g,Al,Z06] at h;subst h;rfl
 |some y=>
  have g:=hx y rfl;simp only[Z1j] at h |-;unfold Al at h;split at h
  ·rename_i e;cases e
  ·rename_i kk kn e
   simp only[Z06] at e;rw[e] at g;simp only[Vr,Sr] at g;cases h
   have hb:(0:Int)<=Int.ofNat k/\Int.ofNat k<=(top:Int):=by simp;omega
   simp only[Instr.sliceBound,g,asIntOf,Z09,Z0f,Z05];rw[if_pos hb];simp
  ·cases h
theorem yM {o:Oper} {env:List V} {L:Hp} {out:Out} (h:F5 P o env n L=some out) (hC:out.C):OutOK P o env n L out:=by
 unfold F5 DH at h;simp only[F6] at h;split at h
 ·rename_i t x ix ho
  split at h
  ·rename_i ki k hix
   split at h
   ·rename_i get sz m hx
    split at h
    ·rename_i e hty
     split at h
     ·rename_i sz' hsz
      split at h
      ·rename_i hb
       have hb:=Z0q hb;subst hb;rw[cD] at h;cases h;refine⟨OpL.light λφ a w hop _=>?_,Z02 _⟩;have g1:=hop x (by simp[ho,Op.operands]);have g2:=hop ix (by simp[ho,Op.operands]);rw[hx] at g1;rw[hix] at g2;simp only[Vr,Sr] at g2;obtain⟨b,o',c,hv,hp⟩:=Cz g1 hC;refine⟨_,?_,hp⟩;have h1:(0:Int)<=Int.ofNat k:=an
       have h2:Int.ofNat k<(m:Int):=by simp;exact hC
       simp only[execOp,ho,hv,g2,Instr.indexAt,asIntOf,Z09,Z0f,run_underlying hty,Z05,aM hsz,bv];rw[if_pos ⟨h1,h2⟩];simp[aM hsz,bv]
      ·cases h
     ·cases h
    ·cases h
   ·rename_i g off hx
    split at h
    ·rename_i len e hty
     split at h
     ·rename_i sz hsz
      cases h;refine⟨OpL.light λφ a w hop _=>?_,Z02 _⟩;have g1:=hop x (by simp[ho,Op.operands]);have g2:=hop ix (by simp[ho,Op.operands]);rw[hx] at g1;rw[hix] at g2;simp only[Vr,Sr] at g1 g2;have hk:k<len:=hC;have h1:(0:Int)<=Int.ofNat k:=an
      have h2:Int.ofNat k<(len:Int):=by simp;exact hk
      refine⟨.pointer (some ⟨g,bJ off (bG k sz),none⟩),?_,rfl⟩;simp only[execOp,ho,g1,g2,Instr.indexAt,Instr.sureAddr,asIntOf,Z09,Z0f,run_underlying hty,Z05,aM hsz,bv,am,aB];rw[if_pos ⟨h1,h2⟩];simp[aM hsz,bv]
     ·cases h
    ·cases h
   ·exact fR h hC
  ·cases h
 ·split at h
  ·exact fR h hC
  ·cases h
 ·rename_i s x f ho
  split at h
  ·rename_i cs j hx
   split at h
   ·rename_i off hoff
    cases h;refine⟨OpL.light λφ a w hop _=>?_,Z02 _⟩;have g1:=hop x (by simp[ho,Op.operands]);rw[hx] at g1;obtain⟨b,o',vs,hz,hv,hxx⟩:=g1;refine⟨.pointer (some ⟨b,o'+bJ j off,none⟩),?_,b,o',vs,hz,rfl,hxx⟩;simp only[execOp,ho,hv,Z09,iU hoff,Z05,Z0f,am,Z52]
   ·cases h
  ·rename_i g j hx
   split at h
   ·rename_i off hoff
    cases h;refine⟨OpL.light λφ a w hop _=>?_,Z02 _⟩;have g1:=hop x (by simp[ho,Op.operands]);rw[hx] at g1;simp only[Vr,Sr] at g1;exact⟨.pointer (some ⟨g,bJ j off,none⟩),by simp only[execOp,ho,g1,Z09,iU hoff,Z05,Z0f,am],rfl⟩
   ·cases h
  ·exact fR h hC
 ·rename_i t x ho
  split at h
  ·rename_i cs j hx
   split at h
   ·rename_i ag sz ht
    split at h
    ·rename_i v hv
     rw[eA] at h;cases h;refine⟨OpL.light λφ a w hop hg=>?_,Z02 _⟩;have g1:=hop x (by simp[ho,Op.operands]);rw[hx] at g1;obtain⟨ad,hu,y,hy,hr⟩:=xM hg g1 ht hv;exact⟨y,by simp only[execOp,ho,hu,Instr.loadAt,Instr.sureAddr,Z09,Z0f,Z05,hy],hr⟩
    ·cases h
   ·cases h
  ·rename_i g j hx
   split at h
   ·rename_i ag sz cs ht hcs
    split at h
    ·rename_i v hv
     rw[eA] at h;cases h;refine⟨OpL.light λφ a w hop hg=>?_,Z02 _⟩;have g1:=hop x (by simp[ho,Op.operands]);rw[hx] at g1;simp only[Vr,Sr] at g1;obtain⟨vs,hz,hall⟩:=hg.gz g cs hcs
     have hf:Sr φ (.fpt cs j) (a.eval x):=⟨g,0,vs,hz,by rw[g1,Z0c],λi y hi=>by rw[Z0c];exact hall.get hi⟩
     obtain⟨ad,hu,y,hy,hr⟩:=xM hg hf ht hv;exact⟨y,by simp only[execOp,ho,hu,Instr.loadAt,Instr.sureAddr,Z09,Z0f,Z05,hy],hr⟩
    ·cases h
   ·cases h
  ·exact fR h hC
 ·rename_i x ho
  split at h
  ·rename_i cs j hx
   cases h;refine⟨OpL.light λφ a w hop _=>?_,Z02 _⟩;have g1:=hop x (by simp[ho,Op.operands]);rw[hx] at g1;refine⟨a.eval x,?_,g1⟩;obtain⟨b,o',vs,hz,hv,hxx⟩:=g1;simp only[execOp,ho,hv,Z0f]
  ·exact fR h hC
 ·rename_i t x lo hi mx ho
  split at h
  ·split at h
   ·exact fR h hC
   ·cases h
  ·rename_i get sz m hx
   split at h
   ·rename_i e hty
    split at h
    ·rename_i sz' k hh hsz hlo hhi
     split at h
     ·rename_i hb
      have hb:=Z0q hb;subst hb;cases h;obtain⟨c1,c2⟩:=hC;refine⟨OpL.light λφ a w hop _=>?_,Z02 _⟩;have g1:=hop x (by simp[ho,Op.operands]);rw[hx] at g1
      have gl:∀ y,lo=some y->Vr φ (ev env y) (a.eval y):=λy hy=>hop y (by subst hy;simp[ho,Op.operands])
      have gh:∀ y,hi=some y->Vr φ (ev env y) (a.eval y):=λy hy=>hop y (by subst hy;simp[ho,Op.operands])
      have sr:∀ (b o c:Nat) (vs:List Value) (val:Nat->Nat->Value),φ.z b=some vs->m<=c->(∀ i,i<m->(get i).length=sz)->(∀ i j x,i<m->(get i)[j]? =some x->vs[o+(i*sz+j)]? =some (val i j))->(∀ i j x,i<m->(get i)[j]? =some x->Pr φ.z x (val i j))->
       Sr φ (.frz (λi=>get (k+i)) sz (hh-k)) (.slice (some ⟨b,if c=k then o else o+k*sz,none⟩) (hh-k) (c-k)):=by
       intro b o c vs val h1 hn hl hv hxx;by_cases hck:c=k
       ·have:hh-k=0:=aa
        rw[this];exact .nil _ _ _ _ (λe=>by cases e)
       ·rw[if_neg hck]
        exact .frz _ _ _ _ _ _ vs h1 aa (λi j=>val (k+i) j) (λi hi=>hl _ aa) (λi j x hi hg=>by
         have:=hv (k+i) j x aa hg;rw[Z2q] at this
         rw[show o+k*sz+(i*sz+j)=o+(k*sz+i*sz+j) by omega];exact this) (λi j x hi hg=>hxx _ j x aa hg)
      have sr0:∀ (b o c:Nat) (vs:List Value) (val:Nat->Nat->Value),φ.z b=some vs->m<=c->(∀ i,i<m->(get i).length=sz)->(∀ i j x,i<m->(get i)[j]? =some x->vs[o+(i*sz+j)]? =some (val i j))->(∀ i j x,i<m->(get i)[j]? =some x->Pr φ.z x (val i j))->
       Sr φ (.frz get sz hh) (.slice (some ⟨b,o,none⟩) hh c):=by
       intro b o c vs val h1 hn hl hv hxx;exact .frz _ _ _ _ _ _ vs h1 aa val (λi hi=>hl _ aa) (λi j x hi hg=>hv i j x aa hg) (λi j x hi hg=>hxx _ j x aa hg)
      generalize hu:a.eval x=u at g1
      have bounds:∀ (cap:Nat),m<=cap->(Instr.sliceBounds true m cap (lo.map a.eval) (hi.map a.eval) none).run P w=.ok (k,hh,cap) w:=by
       intro cap hcap;have r1:=yH (P:=P) (w:=w) gl (top:=hh) .sliceB hlo c1;have r2:=yH (P:=P) (w:=w) gh (top:=cap) .sliceAcap hhi aa;unfold Instr.sliceBounds
       cases hi<;>cases lo<;>simp_all
      cases g1 with
      |nil _ _ ad c hk0=>
       have h0:k=0/\hh=0:=aa;obtain⟨rfl,rfl⟩:=h0;have hb:=bounds c (Z08 _)
       have hex:∃ ad' c',(execOp a.eval o).run P w=.ok (.value (.slice ad' 0 c')) w/\(ad'=none->c'=0):=by
        cases ad with
        |none=>
         obtain rfl:=hk0 rfl;refine⟨none,0,?_,λ_=>rfl⟩;simp only[execOp,ho,hu,Z2g,Instr.sliceAt,Instr.slice,Z09,run_underlying hty,Z05,hb,aM hsz,Z1j,bv,Z0f];rfl
        |some ad=>
         refine⟨_,_,by simp only[execOp,ho,hu,Z2g,Instr.sliceAt,Instr.slice,Z09,run_underlying hty,Z05,hb,aM hsz,Z1j,bv,Z0f];rfl,?_⟩
         intro e;split at e<;>cases e
       obtain⟨ad',c',he,hk1⟩:=hex;refine⟨_,he,?_⟩
       cases lo with
       |none=>exact .nil _ _ _ _ hk1
       |some y=>exact .nil _ _ _ _ hk1
      |frz _ _ _ b oo c vs h1 hn val hl hv hxx=>
       have hb:=bounds c hn
       cases lo with
       |none=>
        simp only[Z2g,Al,Z06] at hlo;subst hlo;refine⟨.slice (some ⟨b,oo,none⟩) hh c,?_,sr0 b oo c vs val h1 hn hl hv hxx⟩;simp only[execOp,ho,hu,Z2g,Instr.sliceAt,Instr.slice,Z09,run_underlying hty,Z05,aM hsz,Z1j,bv,Z0f];rw[show (Instr.sliceBounds true m c none (Option.map a.eval hi) none).run P w=.ok (0,hh,c) w from hb];simp
       |some y=>
        refine⟨_,?_,sr b oo c vs val h1 hn hl hv hxx⟩;simp only[execOp,ho,hu,Z2g,Instr.sliceAt,Instr.slice,Z09,run_underlying hty,Z05,aM hsz,Z1j,bv,Z0f];rw[show (Instr.sliceBounds true m c (some (a.eval y)) (Option.map a.eval hi) none).run P w=.ok (k,hh,c) w from hb];simp only[Z05]
        split<;>rfl
     ·cases h
    ·cases h
   ·cases h
  ·exact fR h hC
 ·rename_i c ho
  split at h
  ·rename_i hc
   split at h
   ·rename_i x hargs
    split at h
    ·rename_i m hm
     split at h
     ·rename_i t ht
      split at h
      ·rename_i e hty
       cases h;refine⟨OpL.light λφ a w hop _=>?_,Z02 _⟩;have g:=hop x (by rw[ho];simp only[Op.operands,Call.operands,hc];simpa using (by rw[hargs];exact .head _:x∈c.args.toList));obtain⟨ad,kk,hu⟩:=Am hm g
       have ea:c.args.map a.eval= #[a.eval x]:=by apply Z3v;simp[hargs]
       have hl:(Builtin.len_ c.argTypes o.type #[a.eval x]).run P w=.ok (.int .i64 m) w:=by
        rw[hu];simp[Builtin.len_,ht,run_underlying hty,goInt]
       exact⟨_,by simp only[execOp,ho,resolve,hc,Z09,Z0f,Z05,invoke,builtin,ea,hl],rfl⟩
      ·cases h
     ·cases h
    ·exact fR h hC
   ·cases h
  ·exact fR h hC
 ·exact fR h hC
end
end Ab
end Go.Proofs.YtegjgpldfgjoiaaGreatDoor
