import Derived.Test.YtegjgpldfgjoiaaGreatDoorCnJ09
set_option linter.all false
namespace Go.Proofs.YtegjgpldfgjoiaaGreatDoor
namespace Ab
open Go
section
variable {φ:Ph} {n sz:Nat} {P:Program}
theorem mW {get:Nat->List S} {v:Value} (h:Sr φ (.frz get sz n) v):∃ a k,v=.slice a n k:=by
 cases h with
 |nil get sz a k=>grind
 |frz get sz n b o k vs h1 hn val hl hv hx=>grind
def zk:V->Option Nat
 | .s (.frz _ _ n)=>some n
 | .s (.row _ _ n)=>some n
 |_=>none
theorem Cr {x:V} (h:zk x=some n) {u:Value} (hu:Vr φ x u):∃ a k,u=.slice a n k:=by
 unfold zk at h;split at h
 ·cases h;exact mW hu
 ·cases h
  rcases hu with ⟨rfl,hu⟩|⟨_,b,k,_,_,hu,_⟩
  all_goals grind
 ·cases h
theorem EJ {get:Nat->List S} {k:Nat} {v:Value} (h:Sr φ (.frz get sz n) v) (hk:k<n):∃ b o c,v=.slice (some ⟨b,o,none⟩) n c/\Sr φ (.fpt (get k) 0) (.pointer (some ⟨b,o+k*sz,none⟩)):=by
 cases h with
 |nil get sz a c=>omega
 |frz get sz n b o c vs h1 hn val hl hv hx=>
  exact⟨b,o,c,rfl,b,o+k*sz,vs,h1,rfl,λi x hi=>⟨val k i,ae,hx k i x hk hi⟩⟩
def AK (agg:Bool) (sz:Nat) (cs:List S) (j:Nat):Option V:=
 match agg with
 |true=>match Nat.ble (j+sz) cs.length with|true=>some (.agg ((cs.drop j).take sz))|false=>none
 |false=>match cs[j]? with|some x=>some (.s x)|none=>none
theorem Ac {L:Hp} {w:World} (hg:Good φ L w) {cs:List S} {j:Nat} {u:Value} (hu:Sr φ (.fpt cs j) u) {t:TypeId} {ag:Bool} (ht:xL P t=some (ag,sz)) {v:V} (hv:AK ag sz cs j=some v):
 ∃ a,u=.pointer (some a)/\∃ x,(loadVar t a).run P w=.ok x w/\Vr φ v x:=by
 obtain⟨b,o,vs,hz,rfl,hx⟩:=hu;obtain⟨⟨ty,fr,hb⟩,_⟩:=hg.fz b vs hz;refine⟨_,rfl,?_⟩
 have hagg:(isAgg t).run P w=.ok ag w/\(ag=true->(sizeOf t).run P w=.ok sz w):=by
  unfold xL at ht;simp only[isAgg,sizeOf,typeInfo,underlying,Z09,run_program,Z05]
  cases hu:P.underlying t with
  |none=>grind
  |some d=>
   simp only[hu] at ht |-
   cases hi:P.info? t with
   |none=>grind
   |some i=>rw[hi] at ht;cases d<;>simp at ht<;>obtain⟨rfl,rfl⟩:=ht<;>simp
 have cell:∀ i x,cs[i]? =some x->∃ y,w.cell? ⟨b,o+i,none⟩=some y/\Sr φ x y:=by
  intro i x hi;obtain⟨y,hy,hp⟩:=hx i x hi;exact⟨y,by simp only[World.cell?,hb,Z2b,Z0l,if_false,Z1a];exact hy,hp.sr⟩
 unfold AK at hv
 cases ag with
 |true=>
  simp only[] at hv
  cases hle:Nat.ble (j+sz) cs.length with
  |false=>grind
  |true=>
   rw[hle] at hv;simp only[Z06] at hv;subst hv;have hle':=Z1y hle
   have ex:∀ (l:List S) (k:Nat),(∀ i x,l[i]? =some x->cs[k+i]? =some x)->∃ ys:List Value,All2 (Sr φ) l ys/\∀ i y,ys[i]? =some y->w.cell? ⟨b,o+(k+i),none⟩=some y:=by
    intro l
    induction l with
    |nil=>intro k _;exact⟨[],trivial,λi y h=>by simp at h⟩
    |cons x t ih=>
     intro k hk;obtain⟨y,hy,hs⟩:=cell k x (by simpa using hk 0 x rfl)
     obtain⟨ys,hys,hc⟩:=ih (k+1) λi z hi=>by rw[show k+1+i=k+(i+1) by omega];exact hk (i+1) z (by simpa using hi)
     refine⟨y::ys,⟨hs,hys⟩,λi z hi=>?_⟩
     grind
   obtain⟨ys,hys,hc⟩:=ex ((cs.drop j).take sz) j λi x hi=>by
    grind
   refine⟨.agg ys.toArray,?_,ys,rfl,hys⟩
   have hlen:ys.length=sz:=by rw[hys.len];simp;omega
   have hld:=bA (P:=P) (w:=w) (b:=b) (o:=o+j) ys 0 #[] (by
    intro i v hi
    rw[Z0c,Z52];exact hc i v hi)
   rw[hlen] at hld;simp only[loadVar,Z09,hagg.1,Z05,if_true,hagg.2 rfl,loadCells,hld,Z0f];simp
 |false=>
  simp only[] at hv
  cases hc:cs[j]? with
  |none=>grind
  |some y=>
   rw[hc] at hv;simp only[Z06] at hv;subst hv;obtain⟨x,hxv,hs⟩:=cell j y hc;refine⟨x,?_,hs⟩;simp only[loadVar,Z09,hagg.1,Z05,Z0l,if_false,run_load,hxv]
def MA:Option V->Option (List Ans)
 |none=>some []
 |some (.s (.int _ (.ofNat k)))=>some [.idx k]
 |_=>none
def Cq:Option V->Nat->Option Nat
 |none,d=>some d
 |some (.s (.int _ (.ofNat k))),_=>some k
 |_,_=>none
def oD (P:Program) (o:Oper) (e:Operand->V) (n:Nat) (L:Hp) (ans:List Ans):Option Out:=
 match o.op with
 | .move x=>lt n (e x) ans True
 | .assign x=>lt n (e x) ans True
 | .pick c a b=>
   match e c with
   | .s (.bool t)=>match t with|true=>lt n (e a) ans True|false=>lt n (e b) ans True
   |_=>none
 | .binOp op t x y _=>pN n (Bm P op t (iF (e x)) (iF (e y)) ans)
 | .unOp op _ x=>pN n (aUn op (e x) ans)
 | .convert src dst x=>
   match P.underlying src,P.underlying dst with
   |some (.slice _),some .string=>uB P n L src dst (iF (e x)) ans
   |some .string,some (.slice _)=>ml P n src dst (e x) ans
   |_,_=>pN n (uE P src dst (e x) ans)
 | .makeSlice t l c=>Bj P n t (e l) (e c) ans
 | .slice t x lo hi mx=>
   match ans with
   | .win k h cs::as_=>F8 P n L t (e x) (lo.map e) (hi.map e) (mx.map e) k h cs as_
   | .wlz k h::as_=>xp P n t (e x) (lo.map e) (hi.map e) (mx.map e) k h as_
   |ans=>qJ P n t (iF (e x)) (lo.map λy=>iF (e y)) (hi.map λy=>iF (e y)) (mx.map λy=>iF (e y)) ans
 | .build t parts=>uF P n t (parts.toList.map λ(i,x)=>(i,e x)) ans
 | .buildSlice t len parts=>gP P n t len (parts.toList.map λ(i,x)=>(i,e x)) ans
 | .field t x f=>pe P n t (e x) f ans
 | .extract x i=>match Iy (e x) i with|some v=>lt n v ans True|none=>none
 | .load t a=>Bk P n L t (e a) ans
 | .store t a x=>
   match ans with
   | .stw cs cells::as_=>pd P n L t (e a) (e x) cs cells as_
   |ans=>nF P n L t (e a) (e x) ans
 | .alloc t=>uH P n t ans
 | .box t x=>IA n t (e x) ans
 | .fieldAddr s x f=>uD P n s (e x) f ans
 | .indexAddr t x ix=>iZ P n t (iF (e x)) (iF (e ix)) ans
 | .index t x ix=>uC P n t (e x) (e ix) ans
 | .nilCheck x=>It n (e x) ans
 | .call c=>
   match c.callee with
   | .value (.func f)=>
     match ans with
     | .ext args0 v::as_=>jg v λv=>some ⟨⟨[],v,[],n⟩,as_,c.args.toList.map e=args0/\XT P f args0 v⟩
     | .callw tbl args0 L0 v0 n0' L0'::as_=>sB P f (c.args.toList.map λy=>iF (e y)) n L (.call tbl args0 L0 v0 n0' L0'::as_)
     |ans=>sB P f (c.args.toList.map e) n L ans
   | .builtin b=>mn P b c.argTypes n L (c.args.toList.map e) ans
   |_=>none
 |_=>none
theorem Io (P:Program) (o:Oper) (env:List V) (n:Nat) (L:Hp) (ans:List Ans):oD P o (ev env) n L ans=GA P o env n L ans:=by
 unfold oD GA lI;rfl
def FX (P:Program) (o:Oper) (e:Operand->V) (n:Nat) (L:Hp):Option Out:=
 match o.op with
 | .indexAddr t x ix=>
   match e ix with
   | .s (.int _ (.ofNat k))=>
     match e x with
     | .s (.frz get sz m)=>
       match P.underlying t with
       |some (.slice el)=>
        match cE P el with
        |some sz'=>match Nat.beq sz sz' with|true=>l6 (get k) [] λcs=>some ⟨⟨[],.s (.fpt cs 0),[],n⟩,[],k<m⟩|false=>none
        |none=>none
       |_=>none
     | .s (.gp g off)=>
       match P.underlying t with
       |some (.array len el)=>match cE P el with|some sz=>some ⟨⟨[],.s (.gp g (bU off (bQ k sz))),[],n⟩,[],k<len⟩|none=>none
       |_=>none
     |_=>oD P o e n L [.idx k]
   |_=>none
 | .index _ _ ix=>
   match e ix with
   | .s (.int _ (.ofNat k))=>oD P o e n L [.idx k]
   |_=>none
 | .fieldAddr s x f=>
   match e x with
   | .s (.fpt cs j)=>match jT P s f with|some off=>some ⟨⟨[],.s (.fpt cs (bU j off)),[],n⟩,[],True⟩|none=>none
   | .s (.gp g j)=>match jT P s f with|some off=>some ⟨⟨[],.s (.gp g (bU j off)),[],n⟩,[],True⟩|none=>none
   |_=>oD P o e n L []
 | .load t a=>
   match e a with
   | .s (.fpt cs j)=>
     match xL P t with
     |some (ag,sz)=>match AK ag sz cs j with|some v=>jg v λv=>some ⟨⟨[],v,[],n⟩,[],True⟩|none=>none
     |none=>none
   | .s (.gp g j)=>
     match xL P t,GS g with
     |some (ag,sz),some cs=>match AK ag sz cs j with|some v=>jg v λv=>some ⟨⟨[],v,[],n⟩,[],True⟩|none=>none
     |_,_=>none
   |_=>oD P o e n L []
 | .nilCheck x=>
   match e x with
   | .s (.fpt cs j)=>some ⟨⟨[],.s (.fpt cs j),[],n⟩,[],True⟩
   |_=>oD P o e n L []
 | .slice t x lo hi mx=>
   match e x with
   | .s (.str _)=>
     match MA (hi.map e),MA (lo.map e) with
     |some a,some b=>oD P o e n L (a++b)
     |_,_=>none
   | .s (.frz get sz m)=>
     match mx,P.underlying t with
     |none,some (.slice el)=>
      match cE P el,Cq (lo.map e) 0,Cq (hi.map e) m with
      |some sz',some k,some h=>
       match Nat.beq sz sz' with
       |true=>some ⟨⟨[],.s (.frz (match lo with|none=>get|some _=>λi=>get (k+i)) sz (match lo with|none=>h|some _=>h-k)),[],n⟩,[],k<=h/\h<=m⟩
       |false=>none
      |_,_,_=>none
     |_,_=>none
   |_=>oD P o e n L []
 | .call c=>
   match c.callee with
   | .builtin .len=>
     match c.args.toList with
     |[x]=>
      match zk (e x) with
      |some m=>
       match c.argTypes[0]? with
       |some t=>match P.underlying t with|some (.slice _)=>some ⟨⟨[],.s (.int .i64 (m:Int)),[],n⟩,[],True⟩|_=>none
       |none=>none
      |none=>oD P o e n L []
     |_=>none
   |_=>oD P o e n L []
 |_=>oD P o e n L []
def In (P:Program) (o:Oper) (env:List V) (n:Nat) (L:Hp):Option Out:=FX P o (ev env) n L
theorem A9 {w:World} {a:Act} {env:List V} {x:Option Operand} (hx:∀ y,x=some y->Vr φ (ev env y) (a.eval y)) {dflt top k:Nat} (code:BoundsCode) (h:Cq (x.map (ev env)) dflt=some k) (hk:k<=top):
 (match x.map a.eval with|some v=>Instr.sliceBound v top code|none=>pure dflt).run P w=.ok k w:=by
 cases x with
 |none=>simp only[Z2g,Cq,Z06] at h;subst h;rfl
 |some y=>
  have g:=hx y rfl;simp only[Z1j] at h |-;unfold Cq at h;split at h
  ·grind
  ·rename_i kk kn e
   simp only[Z06] at e;rw[e] at g;simp only[Vr,Sr] at g;cases h;have hb:(0:Int)<=Int.ofNat k/\Int.ofNat k<=(top:Int):=ae;simp only[Instr.sliceBound,g,asIntOf,Z09,Z0f,Z05];rw[if_pos hb];simp
  ·cases h
theorem Bc {o:Oper} {env:List V} {L:Hp} {out:Out} (h:In P o env n L=some out) (hC:out.C):OutOK P o env n L out:=by
 unfold In FX at h;simp only[Io] at h;split at h
 ·rename_i t x ix ho
  split at h
  ·rename_i ki k hix
   split at h
   ·rename_i get sz m hx
    split at h
    ·rename_i e hty
     split at h
     ·rename_i sz' hsz
      split at h
      ·rename_i hb
       have hb:=Z0q hb;subst hb;rw[cO] at h;cases h;refine⟨OpL.light λφ a w hop _=>?_,Z02 _⟩;have g1:=hop x (by simp[ho,Op.operands]);have g2:=hop ix (by simp[ho,Op.operands]);rw[hx] at g1;rw[hix] at g2;simp only[Vr,Sr] at g2;obtain⟨b,o',c,hv,hp⟩:=EJ g1 hC;refine⟨_,?_,hp⟩;have h1:(0:Int)<=Int.ofNat k:=aq;have h2:Int.ofNat k<(m:Int):=ae;simp only[execOp,ho,hv,g2,Instr.indexAt,asIntOf,Z09,Z0f,run_underlying hty,Z05,aI hsz,bw];rw[if_pos ⟨h1,h2⟩];simp[aI hsz,bw]
      ·cases h
     ·cases h
    ·cases h
   ·rename_i g off hx
    split at h
    ·rename_i len e hty
     split at h
     ·rename_i sz hsz
      cases h;refine⟨OpL.light λφ a w hop _=>?_,Z02 _⟩;have g1:=hop x (by simp[ho,Op.operands]);have g2:=hop ix (by simp[ho,Op.operands]);rw[hx] at g1;rw[hix] at g2;simp only[Vr,Sr] at g1 g2;have hk:k<len:=hC;have h1:(0:Int)<=Int.ofNat k:=aq;have h2:Int.ofNat k<(len:Int):=ae;refine⟨.pointer (some ⟨g,bU off (bQ k sz),none⟩),?_,rfl⟩;simp only[execOp,ho,g1,g2,Instr.indexAt,Instr.sureAddr,asIntOf,Z09,Z0f,run_underlying hty,Z05,aI hsz,bw,ak,ao];rw[if_pos ⟨h1,h2⟩];simp[aI hsz,bw]
     ·cases h
    ·cases h
   ·exact gA h hC
  ·cases h
 ·split at h
  ·exact gA h hC
  ·cases h
 ·rename_i s x f ho
  split at h
  ·rename_i cs j hx
   split at h
   ·rename_i off hoff
    cases h;refine⟨OpL.light λφ a w hop _=>?_,Z02 _⟩;have g1:=hop x (by simp[ho,Op.operands]);rw[hx] at g1;obtain⟨b,o',vs,hz,hv,hxx⟩:=g1;refine⟨.pointer (some ⟨b,o'+bU j off,none⟩),?_,b,o',vs,hz,rfl,hxx⟩;simp only[execOp,ho,hv,Z09,jS hoff,Z05,Z0f,ak,Z52]
   ·cases h
  ·rename_i g j hx
   split at h
   ·rename_i off hoff
    cases h;refine⟨OpL.light λφ a w hop _=>?_,Z02 _⟩;have g1:=hop x (by simp[ho,Op.operands]);rw[hx] at g1;simp only[Vr,Sr] at g1;exact⟨.pointer (some ⟨g,bU j off,none⟩),by simp only[execOp,ho,g1,Z09,jS hoff,Z05,Z0f,ak],rfl⟩
   ·cases h
  ·exact gA h hC
 ·rename_i t x ho
  split at h
  ·rename_i cs j hx
   split at h
   ·rename_i ag sz ht
    split at h
    ·rename_i v hv
     rw[fh] at h;cases h;refine⟨OpL.light λφ a w hop hg=>?_,Z02 _⟩;have g1:=hop x (by simp[ho,Op.operands]);rw[hx] at g1;obtain⟨ad,hu,y,hy,hr⟩:=Ac hg g1 ht hv;exact⟨y,by simp only[execOp,ho,hu,Instr.loadAt,Instr.sureAddr,Z09,Z0f,Z05,hy],hr⟩
    ·cases h
   ·cases h
  ·rename_i g j hx
   split at h
   ·rename_i ag sz cs ht hcs
    split at h
    ·rename_i v hv
     rw[fh] at h;cases h;refine⟨OpL.light λφ a w hop hg=>?_,Z02 _⟩;have g1:=hop x (by simp[ho,Op.operands]);rw[hx] at g1;simp only[Vr,Sr] at g1;obtain⟨vs,hz,hall⟩:=hg.gz g cs hcs
     have hf:Sr φ (.fpt cs j) (a.eval x):=⟨g,0,vs,hz,ae,λi y hi=>by rw[Z0c];exact hall.get hi⟩
     obtain⟨ad,hu,y,hy,hr⟩:=Ac hg hf ht hv;exact⟨y,by simp only[execOp,ho,hu,Instr.loadAt,Instr.sureAddr,Z09,Z0f,Z05,hy],hr⟩
    ·cases h
   ·cases h
  ·exact gA h hC
 ·rename_i x ho
  split at h
  ·rename_i cs j hx
   cases h;refine⟨OpL.light λφ a w hop _=>?_,Z02 _⟩;have g1:=hop x (by simp[ho,Op.operands]);rw[hx] at g1;refine⟨a.eval x,?_,g1⟩;obtain⟨b,o',vs,hz,hv,hxx⟩:=g1;simp only[execOp,ho,hv,Z0f]
  ·exact gA h hC
 ·rename_i t x lo hi mx ho
  split at h
  ·grind [gA]
  ·rename_i get sz m hx
   split at h
   ·rename_i e hty
    split at h
    ·rename_i sz' k hh hsz hlo hhi
     split at h
     ·rename_i hb
      have hb:=Z0q hb;subst hb;cases h;obtain⟨c1,c2⟩:=hC;refine⟨OpL.light λφ a w hop _=>?_,Z02 _⟩;have g1:=hop x (by simp[ho,Op.operands]);rw[hx] at g1
      have gl:∀ y,lo=some y->Vr φ (ev env y) (a.eval y):=λy hy=>hop y (by subst hy;simp[ho,Op.operands])
      have gh:∀ y,hi=some y->Vr φ (ev env y) (a.eval y):=λy hy=>hop y (by subst hy;simp[ho,Op.operands])
      have sr:∀ (b o c:Nat) (vs:List Value) (val:Nat->Nat->Value),φ.z b=some vs->m<=c->(∀ i,i<m->(get i).length=sz)->(∀ i j x,i<m->(get i)[j]? =some x->vs[o+(i*sz+j)]? =some (val i j))->(∀ i j x,i<m->(get i)[j]? =some x->Pr φ.z x (val i j))->
       Sr φ (.frz (λi=>get (k+i)) sz (hh-k)) (.slice (some ⟨b,if c=k then o else o+k*sz,none⟩) (hh-k) (c-k)):=by
       intro b o c vs val h1 hn hl hv hxx;by_cases hck:c=k
       ·have:hh-k=0:=aa
        rw[this];exact .nil _ _ _ _ (λe=>by cases e)
       ·rw[if_neg hck]
        exact .frz _ _ _ _ _ _ vs h1 aa (λi j=>val (k+i) j) (λi hi=>hl _ aa) (λi j x hi hg=>by
         have:=hv (k+i) j x aa hg;rw[Z2q] at this
         rw[show o+k*sz+(i*sz+j)=o+(k*sz+i*sz+j) by omega];exact this) (λi j x hi hg=>hxx _ j x aa hg)
      have sr0:∀ (b o c:Nat) (vs:List Value) (val:Nat->Nat->Value),φ.z b=some vs->m<=c->(∀ i,i<m->(get i).length=sz)->(∀ i j x,i<m->(get i)[j]? =some x->vs[o+(i*sz+j)]? =some (val i j))->(∀ i j x,i<m->(get i)[j]? =some x->Pr φ.z x (val i j))->
       Sr φ (.frz get sz hh) (.slice (some ⟨b,o,none⟩) hh c):=by
       intro b o c vs val h1 hn hl hv hxx;exact .frz _ _ _ _ _ _ vs h1 aa val (λi hi=>hl _ aa) (λi j x hi hg=>hv i j x aa hg) (λi j x hi hg=>hxx _ j x aa hg)
      generalize hu:a.eval x=u at g1
      have bounds:∀ (cap:Nat),m<=cap->(Instr.sliceBounds true m cap (lo.map a.eval) (hi.map a.eval) none).run P w=.ok (k,hh,cap) w:=by
       intro cap hcap;have r1:=A9 (P:=P) (w:=w) gl (top:=hh) .sliceB hlo c1;have r2:=A9 (P:=P) (w:=w) gh (top:=cap) .sliceAcap hhi aa;unfold Instr.sliceBounds
       cases hi<;>cases lo<;>simp_all
      cases g1 with
      |nil _ _ ad c hk0=>
       have h0:k=0/\hh=0:=aa;obtain⟨rfl,rfl⟩:=h0;have hb:=bounds c (Z08 _)
       have hex:∃ ad' c',(execOp a.eval o).run P w=.ok (.value (.slice ad' 0 c')) w/\(ad'=none->c'=0):=by
        cases ad with
        |none=>
         obtain rfl:=hk0 rfl;refine⟨none,0,?_,λ_=>rfl⟩;simp only[execOp,ho,hu,Z2g,Instr.sliceAt,Instr.slice,Z09,run_underlying hty,Z05,hb,aI hsz,Z1j,bw,Z0f];rfl
        |some ad=>
         refine⟨_,_,by simp only[execOp,ho,hu,Z2g,Instr.sliceAt,Instr.slice,Z09,run_underlying hty,Z05,hb,aI hsz,Z1j,bw,Z0f];rfl,?_⟩
         grind
       obtain⟨ad',c',he,hk1⟩:=hex;refine⟨_,he,?_⟩
       cases lo with
       |none=>exact .nil _ _ _ _ hk1
       |some y=>exact .nil _ _ _ _ hk1
      |frz _ _ _ b oo c vs h1 hn val hl hv hxx=>
       have hb:=bounds c hn
       cases lo with
       |none=>
        simp only[Z2g,Cq,Z06] at hlo;subst hlo;refine⟨.slice (some ⟨b,oo,none⟩) hh c,?_,sr0 b oo c vs val h1 hn hl hv hxx⟩;simp only[execOp,ho,hu,Z2g,Instr.sliceAt,Instr.slice,Z09,run_underlying hty,Z05,aI hsz,Z1j,bw,Z0f];rw[show (Instr.sliceBounds true m c none (Option.map a.eval hi) none).run P w=.ok (0,hh,c) w from hb];simp
       |some y=>
        refine⟨_,?_,sr b oo c vs val h1 hn hl hv hxx⟩;simp only[execOp,ho,hu,Z2g,Instr.sliceAt,Instr.slice,Z09,run_underlying hty,Z05,aI hsz,Z1j,bw,Z0f];rw[show (Instr.sliceBounds true m c (some (a.eval y)) (Option.map a.eval hi) none).run P w=.ok (k,hh,c) w from hb];simp only[Z05]
        split<;>rfl
     ·cases h
    ·cases h
   ·cases h
  ·exact gA h hC
 ·rename_i c ho
  split at h
  ·rename_i hc
   split at h
   ·rename_i x hargs
    split at h
    ·rename_i m hm
     split at h
     ·rename_i t ht
      split at h
      ·rename_i e hty
       cases h;refine⟨OpL.light λφ a w hop _=>?_,Z02 _⟩;have g:=hop x (by rw[ho];simp only[Op.operands,Call.operands,hc];simpa using (by rw[hargs];exact .head _:x∈c.args.toList));obtain⟨ad,kk,hu⟩:=Cr hm g
       have ea:c.args.map a.eval= #[a.eval x]:=by apply Z3v;simp[hargs]
       have hl:(Builtin.len_ c.argTypes o.type #[a.eval x]).run P w=.ok (.int .i64 m) w:=by
        rw[hu];simp[Builtin.len_,ht,run_underlying hty,goInt]
       exact⟨_,by simp only[execOp,ho,resolve,hc,Z09,Z0f,Z05,invoke,builtin,ea,hl],rfl⟩
      ·cases h
     ·cases h
    ·exact gA h hC
   ·cases h
  ·exact gA h hC
 ·exact gA h hC
end
section
variable {m n' n:Nat} {M wr L:Hp} {P:Program} {C p:Prop} {fn:Func} {foot:List Nat} {t:Bool} {r:Nat->Nat} {y x:Code} {as_:List Ans} {c:Operand} {a:List Row} {os':List Oper}
def sO (wr:Hp):Hp:=wr.map λx=>(x.1,none)
def mD (x:Row):Row:=(x.1,⟨x.2.foot,.undef,sO x.2.wr,0⟩)
theorem yB (wr:Hp):bP (sO wr)=bP wr:=by
 simp[bP,sO,Function.comp_def]
theorem w_ (ops:Array Oper) (x y:Row):qw ops (mD x) (mD y)=qw ops x y:=by
 simp only[qw,mD,yB]
theorem jV {α β:Type} (f:α->β) (p:β×Nat->Bool):∀ (l:List α) (k:Nat),((l.map f).zipIdx k).all p=(l.zipIdx k).all λx=>p (f x.1,x.2)
 |[],_=>rfl
 |x::t,k=>by simp only[Z13,List.zipIdx_cons,Z1b,jV f p t]
theorem xZ (ops:Array Oper) (rows:List Row):jf ops (rows.map mD)=jf ops rows:=by
 unfold jf;simp only[jV,w_]
def aE (d:Bool) (o:Oper) (foot:List Nat) (wr:Hp) (acc:List Row):List Row:=match d with|true=>(o,⟨foot,.undef,sO wr,0⟩)::acc|false=>acc
def RegX (P:Program) (ops:Array Oper) (d:Bool) (acc:List Row) (os:List Oper) (env:List V) (n:Nat) (L:Hp) (R:Post):Prop:=
 ∃ rows:List Row,rows.map (·.1)=os/\RunOK P ops rows env n L/\(d=true->jf ops (acc.reverse++rows.map mD)=true)/\
   R .normal (eD (λ_=>true) 0 rows env) (pS rows n rows.length) (hD (λ_=>true) 0 rows L)
theorem Fi:∀ (rows:List Row) (k:Nat) (e:List V),eD (λ_=>true) k rows e=eD (λ_=>true) 0 rows e
 |[],_,_=>rfl
 |(o,r)::t,k,e=>by simp only[eD];rw[Fi t (k+1),Fi t (0+1)]
theorem EH:∀ (rows:List Row) (k:Nat) (L:Hp),hD (λ_=>true) k rows L=hD (λ_=>true) 0 rows L
 |[],_,_=>rfl
 |(o,r)::t,k,L=>by simp only[hD];rw[EH t (k+1),EH t (0+1)]
section
variable {P:Program} {b:Nat} {ops:Array Oper} {d:Bool} {acc:List Row} {os:List Oper} {o:Oper} {env:List V} {n:Nat} {L:Hp} {R:Post}
theorem Ex.reg (hm:P.follows .mixedOrders=true) {id:Nat} (h:RegX P ops d [] ops.toList env n L R):Ex P b (.region id ops d) env n L R:=by
 obtain⟨rows,h1,h2,h3,h4⟩:=h
 cases d with
 |false=>exact Ex.regionText h1 h2 h4
 |true=>exact Ex.regionDraw hm (Hc h1 (by have:=h3 rfl;rw[List.reverse_nil,Z1e,xZ] at this;exact this)) h2 h4
theorem RegX.nil (h1:match d with|true=>jf ops acc.reverse=true|false=>True) (h2:R .normal env n L):RegX P ops d acc [] env n L R:=
 ⟨[],rfl,trivial,λe=>by grind,h2⟩
theorem RegX.step {r:Ab.R} (hs:StepOK P ops o r env n L) (k:RegX P ops d (aE d o r.foot r.wr acc) os (bg env o.dst r.v) r.n' (aA L r.wr) R):RegX P ops d acc (o::os) env n L R:=by
 obtain⟨rows,h1,h2,h3,h4⟩:=k;refine⟨(o,r)::rows,ae,⟨hs,h2⟩,λe=>?_,?_⟩
 ·grind [aE,mD]
 ·simp only[eD,hD,Z04,pS]
  rw[Fi,EH];exact h4
theorem RegX.op {v:V} (hw:bf ops env o=some true) (h:OpL P o env n (res foot L) v n' (aA (res foot L) wr)) (hn:n<=n')
 (k:RegX P ops d (aE d o foot wr acc) os (bg env o.dst v) n' (aA L wr) R):RegX P ops d acc (o::os) env n L R:=
 RegX.step (r:=⟨foot,v,wr,n'⟩) (.inl ⟨hw,h,hn⟩) k
theorem RegX.skip (hw:bf ops env o=some false) (k:RegX P ops d (aE d o [] [] acc) os (bg env o.dst .undef) n L R):RegX P ops d acc (o::os) env n L R:=
 RegX.step (r:=⟨[],.undef,[],n⟩) (.inr ⟨hw,rfl,rfl,rfl⟩) k
def iQ:List (Nat×V)->Nat->Option V
 |[],_=>none
 |(j,v)::t,i=>match Nat.beq j i with|true=>some v|false=>iQ t i
def evO (base:List V) (u:List (Nat×V)):Operand->V
 | .tmp t=>match iQ u t with|some v=>v|none=>base.getD t .undef
 | .const v=>cI v
 | .func f=> .s (.fn f)
 | .global g=> .s (.gp g 0)
def CO (ops:Array Oper) (e:Operand->V) (o:Oper):Option Bool:=
 match o.guard with
 |none=>some true
 |some (j,b)=>
  match (ops[j]?).bind (·.dst) with
  |none=>some false
  |some t=>
   match e (.tmp t) with
   | .s (.bool c)=>some (c==b)
   | .undef=>some false
   |_=>none
theorem lj (ops:Array Oper) (env:List V) (o:Oper):CO ops (ev env) o=bf ops env o:=by unfold CO bf;rfl
def mU (d:Nat) (v:V):List (Nat×V)->List (Nat×V)
 |[]=>[(d,v)]
 |(j,u)::t=>match Nat.beq j d with|true=>(d,v)::t|false=>match Nat.blt d j with|true=>(d,v)::(j,u)::t|false=>(j,u)::mU d v t
def tM (d:Option Tmp) (v:V) (u:List (Nat×V)):List (Nat×V):=match d with|some d=>mU d v u|none=>u
def ap (base:List V) (u:List (Nat×V)):List V:=u.foldl (λe x=>e.set x.1 x.2) base
def Bp:List (Nat×V)->Prop
 |[]=>True
 |x::t=>(∀ y∈t,x.1<y.1)/\Bp t
theorem ww {d:Nat} {v:V}:∀ {u:List (Nat×V)} {y:Nat×V},y∈mU d v u->y=(d,v)\/y∈u
 |[],y,h=>by simp[mU] at h;exact .inl h
 |(j,w)::t,y,h=>by
  simp only[mU] at h;split at h
  ·grind
  ·split at h
   ·grind
   ·rcases Z0h.1 h with h|h
    ·grind
    ·rcases ww h with h|h
     all_goals grind
theorem wx {d:Nat} {v:V}:∀ {u:List (Nat×V)},(∃ y∈mU d v u,y.1=d)/\∀ x∈u,∃ y∈mU d v u,y.1=x.1
 |[]=>⟨⟨(d,v),by simp[mU],rfl⟩,λx h=>by grind⟩
 |(j,w)::t=>by
  simp only[mU];split
  ·rename_i hb
   have:=Z0q hb;subst this
   exact⟨⟨_,.head _,rfl⟩,λx hx=>by
    rcases Z0h.1 hx with rfl|h
    ·exact⟨_,.head _,rfl⟩
    ·exact⟨x,.tail _ h,rfl⟩⟩
  ·split
   ·exact⟨⟨_,.head _,rfl⟩,λx hx=>⟨x,.tail _ hx,rfl⟩⟩
   ·obtain⟨⟨y,hy,e⟩,h2⟩:=wx (d:=d) (v:=v) (u:=t)
    exact⟨⟨y,.tail _ hy,e⟩,λx hx=>by
     rcases Z0h.1 hx with rfl|h
     ·exact⟨_,.head _,rfl⟩
     ·obtain⟨z,hz,e⟩:=h2 x h;exact⟨z,.tail _ hz,e⟩⟩
theorem wu {d:Nat} {v:V}:∀ {u:List (Nat×V)},Bp u->Bp (mU d v u)
 |[],_=>⟨λy h=>by grind,trivial⟩
 |(j,w)::t,h=>by
  simp only[mU];split
  ·rename_i hb
   have:=Z0q hb;subst this;exact h
  ·rename_i hb
   split
   ·rename_i hlt
    have:=bd.1 hlt
    exact⟨λy hy=>by
     rcases Z0h.1 hy with rfl|hy
     ·exact this
     ·exact Nat.lt_trans this (h.1 y hy),h⟩
   ·rename_i hlt
    have hne:j≠d:=λe=>by rw[e,Z2n] at hb;cases hb
    have hge: ¬d<j:=λe=>by rw[bd.2 e] at hlt;cases hlt
    refine⟨λy hy=>?_,wu h.2⟩
    rcases ww hy with rfl|hy
    ·grind
    ·exact h.1 y hy
theorem zi {d:Nat} {v:V}:∀ {u:List (Nat×V)} {base:List V},(∀ y∈u,y.1≠d)->ap (base.set d v) u=(ap base u).set d v
 |[],_,_=>rfl
 |x::t,base,h=>by
  show ap ((base.set d v).set x.1 x.2) t=(ap (base.set x.1 x.2) t).set d v;rw[List.set_comm _ _ (h x (.head _)).symm,zi λy hy=>h y (.tail _ hy)]
theorem FW {d:Nat} {v:V}:∀ {u:List (Nat×V)} {base:List V},Bp u->ap base (mU d v u)=(ap base u).set d v
 |[],_,_=>rfl
 |(j,w)::t,base,h=>by
  simp only[mU];split
  ·rename_i hb
   have:=Z0q hb;subst this;show ap (base.set j v) t=(ap (base.set j w) t).set j v;rw[<-zi (λy hy=>by have:=h.1 y hy;simp only at this;omega),Z5m]
  ·rename_i hb
   have hne:j≠d:=λe=>by rw[e,Z2n] at hb;cases hb
   split
   ·rename_i hlt
    have:=bd.1 hlt;show ap (base.set d v) ((j,w)::t)=_
    exact zi λy hy=>by
     rcases Z0h.1 hy with rfl|hy
     ·exact hne
     ·have:=h.1 y hy;simp only at this;omega
   ·exact FW (u:=t) h.2
theorem Bb:∀ {u:List (Nat×V)} {base:List V} {t:Nat},Bp u->(∀ y∈u,y.1<base.length)->(ap base u).getD t .undef=match iQ u t with|some v=>v|none=>base.getD t .undef
 |[],_,_,_,_=>rfl
 |(j,w)::u,base,t,h,hl=>by
  show (ap (base.set j w) u).getD t .undef=_;simp only[iQ];have hj:=hl (j,w) (.head _);simp only at hj;rw[Bb h.2 (λy hy=>by grind)];split
  ·rename_i v hf
   have hm:∃ y∈u,y.1=t:=by
    apply Z4o;intro hno
    have:∀ u:List (Nat×V),(¬∃ y∈u,y.1=t)->iQ u t=none:=by
     intro u
     induction u with
     |nil=>intro _;rfl
     |cons x s ih=>
      grind [iQ,nC]
    grind
   obtain⟨y,hy,rfl⟩:=hm;have:=h.1 y hy
   grind [nC]
  ·rename_i hf
   by_cases e:j=t
   ·subst e
    simp only[Z2n,Z00,Z1i];simp[hj]
   all_goals grind [nC]
theorem tV {base:List V} {u:List (Nat×V)} (h:Bp u) (hl:∀ y∈u,y.1<base.length):evO base u=ev (ap base u):=by
 funext x
 cases x with
 |tmp t=>exact (Bb h hl).symm
 |_=>rfl
def vR {β:Type} (k:List V->β) (f:β):List V->Nat->V->Nat->List (Nat×V)->List V->β
 |[],_,_,_,_,_=>f
 |_::l,0,u,_,[],acc=>rv (u::acc) l k
 |_::l,0,u,j,(j',u')::t,acc=>vR k f l (Nat.sub j' (j+1)) u' j' t (u::acc)
 |v::l,g+1,u,j,t,acc=>vR k f l g u j t (v::acc)
def mrg {β:Type} (k:List V->β) (f:β) (base:List V) (u:List (Nat×V)):β:=match u with|[]=>k base|(j,x)::t=>vR k f base j x j t []
theorem foldl_cons {p:Nat} {v:V}:∀ {t:List (Nat×V)} {l:List V},(∀ y∈t,p<y.1)->t.foldl (λe x=>e.set (x.1-p) x.2) (v::l)=v::t.foldl (λe x=>e.set (x.1-(p+1)) x.2) l
 |[],_,_=>rfl
 |x::t,l,h=>by
  have hx:=h x (.head _);simp only[Z2s];rw[show x.1-p=(x.1-(p+1))+1 by omega,Z2j,foldl_cons λy hy=>h y (.tail _ hy)]
theorem tE {β:Type} {k:List V->β} {f:β}:∀ {l:List V} {g:Nat} {u:V} {j:Nat} {t:List (Nat×V)} {acc:List V},g<=j->(∀ y∈t,j<y.1)->Bp t->
 ((g<l.length/\∀ y∈t,y.1-(j-g)<l.length)/\vR k f l g u j t acc=k (acc.reverse++t.foldl (λe x=>e.set (x.1-(j-g)) x.2) (l.set g u)))\/vR k f l g u j t acc=f
 |[],_,_,_,_,_,_,_,_=> .inr rfl
 |v::l,0,u,j,[],acc,_,_,_=> .inl ⟨⟨aq,λy h=>by grind⟩,by simp[vR,Aa]⟩
 |v::l,0,u,j,(j',u')::t,acc,_,hj,hs=>by
  have h1:=hj (j',u') (.head _);simp only at h1;simp only[vR]
  rcases tE (k:=k) (f:=f) (l:=l) (g:=Nat.sub j' (j+1)) (u:=u') (j:=j') (t:=t) (acc:=u::acc) (Nat.sub_le _ _) (λy hy=>hs.1 y hy) hs.2 with ⟨⟨a,c⟩,h⟩|h
  ·have hg:Nat.sub j' (j+1)=j'-(j+1):=rfl
   have e:j'-Nat.sub j' (j+1)=j+1:=ae;rw[e] at c h;refine .inl ⟨⟨aq,λy hy=>?_⟩,?_⟩
   ·grind
   ·rw[h]
    congr 1;simp only[Z3k,Z30,List.reverse_cons,Z14,Z35];rw[foldl_cons λy hy=>hj y hy];rfl
  ·exact .inr h
 |v::l,g+1,u,j,t,acc,hgj,hj,hs=>by
  simp only[vR]
  rcases tE (k:=k) (f:=f) (l:=l) (g:=g) (u:=u) (j:=j) (t:=t) (acc:=v::acc) aa hj hs with ⟨⟨a,c⟩,h⟩|h
  ·refine .inl ⟨⟨ae,λy hy=>?_⟩,?_⟩
   ·grind
   ·rw[h]
    congr 1;simp only[Z2j,List.reverse_cons,Z14,Z35];rw[foldl_cons λy hy=>by grind]
    grind
  ·exact .inr h
theorem Ka {β:Type} {k:List V->β} {f:β} {base:List V} {u:List (Nat×V)} (h:Bp u):((∀ y∈u,y.1<base.length)/\mrg k f base u=k (ap base u))\/mrg k f base u=f:=by
 cases u with
 |nil=>exact .inl ⟨λy h=>by simp at h,rfl⟩
 |cons x t=>
  obtain⟨j,v⟩:=x
  rcases tE (k:=k) (f:=f) (l:=base) (g:=j) (u:=v) (j:=j) (t:=t) (acc:=[]) (Z02 _) h.1 h.2 with ⟨⟨a,c⟩,e⟩|e
  all_goals grind [mrg,ap]
def Mt:BinOp->Bool
 | .eql=>true| .neq=>true| .lss=>true| .leq=>true| .gtr=>true| .geq=>true
 |_=>false
def Jy:Op->Bool
 | .binOp op _ _ _ _=>Mt op
 | .makeSlice _ _ _=>true
 | .convert _ _ _=>false
 | .call c=>match c.callee with| .builtin .len=>false|_=>true
 |_=>false
abbrev RunO:=Option (List Row×List Oper×List V×Nat×Hp×Prop)
def jt (s:Bool) (acc:List Row) (os:List Oper) (base:List V) (u:List (Nat×V)) (n:Nat) (L:Hp):RunO:=
 match s with|true=>mrg (λenv=>some (acc,os,env,n,L,True)) none base u|false=>none
def Cs (C:Prop):RunO->RunO
 |some (a,s',e,m,M,D)=>some (a,s',e,m,M,C/\D)
 |none=>none
def je (P:Program) (ops:Array Oper) (d:Bool) (base:List V):Bool->List Oper->List Row->List (Nat×V)->Nat->Hp->RunO
 |s,[],acc,u,n,L=>jt s acc [] base u n L
 |s,o::os,acc,u,n,L=>
  match CO ops (evO base u) o with
  |some true=>
   match Jy o.op with
   |true=>jt s acc (o::os) base u n L
   |false=>
    match FX P o (evO base u) n L with
    |some ⟨⟨foot,v,wr,n'⟩,_,C⟩=>
     l6 (tM o.dst v u) [] λu'=>l6 (aA L wr) [] λL'=>
      match d with
      |true=>Cs C (je P ops d base true os (aE true o foot wr acc) u' n' L')
      |false=>Cs C (je P ops d base true os acc u' n' L')
    |none=>jt s acc (o::os) base u n L
  |some false=>
   l6 (tM o.dst .undef u) [] λu'=>
    match d with
    |true=>je P ops d base true os (aE true o [] [] acc) u' n L
    |false=>je P ops d base true os acc u' n L
  |none=>jt s acc (o::os) base u n L
theorem j9 {s:Bool} {acc:List Row} {os:List Oper} {base:List V} {u:List (Nat×V)} {e:List V} (hs:Bp u) (h:jt s acc os base u n L=some (a,os',e,m,M,C)):
 (∀ y∈u,y.1<base.length)/\a=acc/\os'=os/\e=ap base u/\m=n/\M=L:=by
 unfold jt at h
 cases s with
 |false=>cases h
 |true=>
  simp only[] at h
  rcases Ka (k:=λenv=>(some (acc,os,env,n,L,True):RunO)) (f:=none) (base:=base) hs with ⟨h1,h2⟩|h2
  all_goals grind
theorem lX {d:Option Tmp} {v:V} {u:List (Nat×V)} (h:Bp u):Bp (tM d v u):=by
 cases d with
 |none=>exact h
 |some d=>exact wu h
theorem o_ {d:Option Tmp} {v:V} {u:List (Nat×V)} {base:List V} (h:Bp u):ap base (tM d v u)=bg (ap base u) d v:=by
 cases d with
 |none=>rfl
 |some d=>exact FW h
theorem lY {d:Option Tmp} {v:V} {u:List (Nat×V)} {N:Nat} (h:∀ y∈tM d v u,y.1<N):∀ y∈u,y.1<N:=by
 cases d with
 |none=>exact h
 |some d=>
  intro y hy;obtain⟨z,hz,e⟩:=(wx (d:=d) (v:=v) (u:=u)).2 y hy;rw[<-e];exact h z hz
theorem sq {x:RunO} {e:List V} {E:Prop} (h:Cs C x=some (a,os',e,m,M,E)):∃ D,x=some (a,os',e,m,M,D)/\(E->C/\D):=by
 unfold Cs at h;split at h
 ·cases h;exact⟨_,rfl,id⟩
 ·cases h
theorem G8 {base:List V}:∀ (os:List Oper) (s:Bool) (acc:List Row) (u:List (Nat×V)) (n:Nat) (L:Hp) (a:List Row) (os':List Oper) (e:List V) (m:Nat) (M:Hp) (C:Prop),Bp u->
 je P ops d base s os acc u n L=some (a,os',e,m,M,C)->(∀ y∈u,y.1<base.length)/\(C->RegX P ops d a os' e m M R->RegX P ops d acc os (ap base u) n L R):=by
 intro os
 induction os with
 |nil=>
  grind [je,j9]
 |cons o os ih=>
  intro s acc u n L a os' e m M C hs h
  have stop:jt s acc (o::os) base u n L=some (a,os',e,m,M,C)->(∀ y∈u,y.1<base.length)/\(C->RegX P ops d a os' e m M R->RegX P ops d acc (o::os) (ap base u) n L R):=by
   grind [j9]
  unfold je at h;split at h
  ·rename_i hw
   split at h
   ·exact stop h
   ·split at h
    ·rename_i foot v wr n' as_ C1 ha
     rw[cO,cO] at h
     have go:∀ (acc':List Row),acc'=aE d o foot wr acc->Cs C1 (je P ops d base true os acc' (tM o.dst v u) n' (aA L wr))=some (a,os',e,m,M,C)->(∀ y∈u,y.1<base.length)/\(C->RegX P ops d a os' e m M R->RegX P ops d acc (o::os) (ap base u) n L R):=by
      intro acc' hacc h;obtain⟨D,h1,h2⟩:=sq h;obtain⟨k1,k2⟩:=ih _ _ _ _ _ _ _ _ _ _ _ (lX hs) h1;have ku:=lY k1;refine⟨ku,λhC k=>?_⟩;obtain⟨hc1,hc2⟩:=h2 hC;rw[tV hs ku] at ha hw;rw[lj] at hw;obtain⟨q1,q2⟩:=Bc (show In P o (ap base u) n L=_ from ha) hc1;refine RegX.op hw q1 q2 ?_
      grind [o_]
     cases d with
     |true=>grind
     |false=>exact go _ rfl h
    ·exact stop h
  ·rename_i hw
   rw[cO] at h
   have go:∀ (acc':List Row),acc'=aE d o [] [] acc->je P ops d base true os acc' (tM o.dst .undef u) n L=some (a,os',e,m,M,C)->(∀ y∈u,y.1<base.length)/\(C->RegX P ops d a os' e m M R->RegX P ops d acc (o::os) (ap base u) n L R):=by
    intro acc' hacc h;obtain⟨k1,k2⟩:=ih _ _ _ _ _ _ _ _ _ _ _ (lX hs) h;have ku:=lY k1;refine⟨ku,λhC k=>?_⟩;rw[tV hs ku,lj] at hw;refine RegX.skip hw ?_
    grind [o_]
   cases d with
   |true=>grind
   |false=>exact go _ rfl h
  ·exact stop h
theorem RegX.chunk {e:List V} (h:je P ops d env false os acc [] n L=some (a,os',e,m,M,C)) (hC:C) (k:RegX P ops d a os' e m M R):RegX P ops d acc os env n L R:=
 (G8 os false acc [] n L a os' e m M C trivial h).2 hC k
theorem mo (ans:List Ans) {v:V} (hw:bf ops env o=some true) (h:GA P o env n L ans=some ⟨⟨foot,v,wr,n'⟩,as_,C⟩) (hC:C)
 (k:RegX P ops d (aE d o foot wr acc) os (bg env o.dst v) n' (aA L wr) R):RegX P ops d acc (o::os) env n L R:=by
 obtain⟨h1,h2⟩:=gA h hC;exact RegX.op hw h1 h2 k
theorem tf:∀ {x:S},oL 0 x=true->oq r x=x:=by
 intro x h
 cases x with
 |ptr a=>rcases a with _|⟨i,o⟩<;>first|rfl|(simp[oL,Nat.blt] at h)
 |slc a n c=>rcases a with _|⟨i,o⟩<;>first|rfl|(simp[oL,Nat.blt] at h)
 |sla i g n=>simp[oL,Nat.blt] at h
 |row i g n=>simp[oL,Nat.blt] at h
 |map a=>rcases a with _|i<;>first|rfl|(simp[oL,Nat.blt] at h)
 |itr r m=>simp[oL,Nat.blt] at h
 |clo f ps=>
  simp only[oL,Z0i] at h
  have:ps=[]:=by
   cases ps with
   |nil=>rfl
   |cons p t=>have:=h p (.head _);simp[Nat.blt] at this
  subst this;rfl
 |opq k t K=>
  have key:∀ t:Tm,t.lt 0=true->t.ren r=t:=by
   intro t
   induction t with
   |v i=>intro h;simp[Tm.lt,Nat.blt] at h
   |c z=>intro _;rfl
   |bin o k a b iha ihb=>grind [Tm.lt,Tm.ren]
  grind [oL,oq]
 |_=>rfl
theorem vB {l:List S} (h:l.all (oL 0)=true):l.map (oq r)=l:=by
 induction l with
 |nil=>rfl
 |cons x t ih=>grind [tf]
theorem Ha {x:U} (h:LU 0 x=true):vA r x=x:=by
 cases x with
 |s x=>simp only[vA,tf (show oL 0 x=true from h)]
 |agg l=>simp only[vA,vB (show l.all (oL 0)=true from h)]
theorem oF {x:V} (h:fI 0 x=true):cb r x=x:=by
 cases x with
 |any=>rfl
 |undef=>rfl
 |s x=>simp only[cb,tf (show oL 0 x=true from h)]
 |agg l=>simp only[cb,vB (show l.all (oL 0)=true from h)]
 |tup l=>
  have:∀ l:List U,l.all (LU 0)=true->l.map (vA r)=l:=by
   intro l
   induction l with
   |nil=>intro _;rfl
   |cons x t ih=>grind [Ha]
  simp only[cb,this l h]
 |w i g sz k m=>simp[fI,Nat.blt] at h
theorem vz {l:List V} (h:l.all (fI 0)=true):l.map (cb r)=l:=by
 induction l with
 |nil=>rfl
 |cons x t ih=>grind [oF]
end
section
variable {P:Program} {b:Nat} {env:List V} {n:Nat} {L:Hp} {R:Post}
theorem Ex.condT (hc:ev env c=.s (.bool true)) (h:Ex P b x env n L R):Ex P b (.cond c x y) env n L R:=Ex.cond hc h
theorem Ex.condF (hc:ev env c=.s (.bool false)) (h:Ex P b y env n L R):Ex P b (.cond c x y) env n L R:=Ex.cond hc h
theorem Ex.condS (hc:ev env c=.s (.bool t)) (h1:t=true->Ex P b x env n L R) (h2:t=false->Ex P b y env n L R):Ex P b (.cond c x y) env n L R:=by
 refine Ex.cond hc ?_
 grind
end
def Fin (P:Program) (fn:Func) (n:Nat) (v:V) (n':Nat) (L':Hp):Post:=λx env m M=>(x=.ret\/x=.normal)/\∃ v1 new,VLe v1 v/\EndOK P fn n v1 n' L' new env M
theorem SC.walk {f:FuncId} {c:Code} {args:List V} {v:V} {L':Hp} (hf:P.funcs[f]? =some fn) (hb:fn.body=some c) {env:List V} (he:args++List.replicate (fn.ntmps-args.length) .undef=env)
 (h:Ex P n c env n L (Fin P fn n v n' L')):SC P f args n L v n' L':=SC.intro hf hb (he▸h)
def FC (P:Program) (f:FuncId) (args:List V) (n:Nat) (L:Hp) (v:V) (n':Nat) (L':Hp):Prop:=oz P f=true/\SC P f args n L v n' L'
theorem FC.walk {f:FuncId} {c:Code} {args:List V} {v:V} {L':Hp} (hok:oz P f=true) (hf:P.funcs[f]? =some fn) (hb:fn.body=some c) {env:List V} (he:args++List.replicate (fn.ntmps-args.length) .undef=env)
 (h:Ex P n c env n L (Fin P fn n v n' L')):FC P f args n L v n' L':=⟨hok,SC.walk hf hb he h⟩
theorem dv {v v':V} {env:List V} {x:Exit} (hx:x=.ret\/x=.normal) (h1:gC P fn env M=some v') (h2:VLe v' v) (h3:fI 0 v'=true):Fin P fn 0 v 0 [] x env m M:=
 ⟨hx,v',[],h2,EndOK.plain (by rw[oF h3,h1]) J9 h3 rfl⟩
theorem jk {v v':V} {env:List V} {x:Exit} (hx:x=.ret\/x=.normal) (h1:gC P fn env M=some v') (h2:v'=v) (h3:fI 0 v'=true):Fin P fn 0 v 0 [] x env m M:=
 dv hx h1 (h2▸ah _) h3
theorem cL {x y:Bool} {env:List V} {e:Exit} (hx:e=.ret\/e=.normal) (h1:gC P fn env M=some (.s (.bool x))) (h2:x=y):Fin P fn 0 (.s (.bool y)) 0 [] e env m M:=
 jk hx h1 (by rw[h2]) rfl
theorem lh {k:IntKind} {x y:Int} {env:List V} {e:Exit} (hx:e=.ret\/e=.normal) (h1:gC P fn env M=some (.s (.int k x))) (h2:x=y):Fin P fn 0 (.s (.int k y)) 0 [] e env m M:=
 jk hx h1 (by rw[h2]) rfl
theorem Fin.str {x y:List UInt8} {env:List V} {e:Exit} (hx:e=.ret\/e=.normal) (h1:gC P fn env M=some (.s (.str x))) (h2:x=y):Fin P fn 0 (.s (.str y)) 0 [] e env m M:=
 jk hx h1 (by rw[h2]) rfl
end
