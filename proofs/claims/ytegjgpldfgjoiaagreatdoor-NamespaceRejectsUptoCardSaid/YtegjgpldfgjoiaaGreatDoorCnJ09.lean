import Derived.Test.YtegjgpldfgjoiaaGreatDoorCnJ08
set_option linter.all false
namespace Go.Proofs.YtegjgpldfgjoiaaGreatDoor
namespace Ab
open Go
section
variable {o:Oper} {P:Program} {env envS envA:List V} {n b:Nat} {L:Hp} {ans:List Ans} {out:Out} {c:Call} {ops:Array Oper}
def Dv (r:Nat->Nat):Option Bl->Option Bl
 |some bl=>some (eT r bl)
 |none=>none
def cj (tbl:List Nat) (new:Nat) (L0:Hp):Hp->Hp
 |[]=>[]
 |(i,c)::t=>
  match Nat.blt i tbl.length with
  |true=>
   match lk L0 i with
   |some b=>match b.ro with|true=>cj tbl new L0 t|false=>(rn tbl new i,Dv (rn tbl new) c)::cj tbl new L0 t
   |none=>cj tbl new L0 t
  |false=>(rn tbl new i,Dv (rn tbl new) c)::cj tbl new L0 t
def ep (L0 L0':Hp):Bool:=L0.all λx=>(bP L0').elem x.1
def co:List Nat->Bool
 |[]=>true
 |x::t=> !t.elem x&&co t
structure callC (P:Program) (f:FuncId) (args:List V) (n:Nat) (L:Hp) (tbl:List Nat) (args0:List V) (L0:Hp) (v0:V) (n0':Nat) (L0':Hp):Prop where
 sc:SC P f args0 tbl.length L0 v0 n0' L0'
 ar:args=args0.map (cb (rn tbl n))
 ft:Fits tbl n n0' L0 (res tbl L)
def oz (P : Program) (f : FuncId) : Bool := match P.funcs[f]? with | some fn => fn.body.isSome && !(fn.name == "runtime.NumGoroutine") | none => false
def sB (P:Program) (f:FuncId) (args:List V) (n:Nat) (L:Hp) (ans:List Ans):Option Out:=
 match ans with
 | .call tbl args0 L0 v0 n0' L0'::as_=>
   match args0.all (fI tbl.length)&&fg tbl.length L0&&ep L0 L0'&&co (bP L0')&&Nat.ble tbl.length n0' with
   |true=>
    jg (cb (rn tbl n) v0) λv=>l6 (cj tbl n L0 L0') [] λwr=>
     some ⟨⟨tbl,v,wr,n+(n0'-tbl.length)⟩,as_,oz P f=true/\callC P f args n L tbl args0 L0 v0 n0' L0'⟩
   |false=>none
 |_=>none
theorem c_:∀ {L:Hp} {i:Nat} {bl:Bl},lk L i=some bl->(i,some bl)∈L
 |[],_,_,h=>by simp[lk] at h
 |(j,c)::t,i,bl,h=>by
  rw[aY] at h;split at h
  ·grind
  ·exact .tail _ (c_ h)
theorem mR:∀ {L:Hp} {i:Nat} {c:Option Bl},co (bP L)=true->(i,c)∈L->lk L i=c
 |(j,d)::t,i,c,hn,h=>by
  simp only[bP,Z13,co,Z07,Z0v] at hn;rw[aY]
  cases h with
  |head=>simp
  |tail _ h=>
   split
   ·rename_i e;subst e
    have:j∈t.map (·.1):=Z1d.2 ⟨(j,c),h,rfl⟩
    grind
   ·exact mR hn.2 h
theorem jG:∀ (W L:Hp) (x:Nat),x∈bP W->∃ c,(x,c)∈W/\lk (aA L W) x=c
 |(j,d)::t,L,x,h=>by
  simp only[aA];by_cases ht:x∈bP t
  ·obtain⟨c,hc,he⟩:=jG t (put L j d) x ht
   grind
  ·simp only[bP,Z13,Z0h] at h
   have hj:x=j:=h.resolve_right ht
   grind [cG,aC]
theorem pU {tbl:List Nat} {new:Nat} {L0:Hp}:∀ {L0':Hp} {x:Nat} {c:Option Bl},(x,c)∈cj tbl new L0 L0'->
 ∃ i d,(i,d)∈L0'/\rn tbl new i=x/\c=d.map (eT (rn tbl new))/\(tbl.length<=i\/∃ b,lk L0 i=some b/\b.ro=false)
 |(j,d)::t,x,c,h=>by
  simp only[cj] at h
  have rest:(x,c)∈cj tbl new L0 t->∃ i d',(i,d')∈(j,d)::t/\rn tbl new i=x/\c=d'.map (eT (rn tbl new))/\(tbl.length<=i\/∃ b,lk L0 i=some b/\b.ro=false):=λh=>by
   obtain⟨i,d',h1,h2⟩:=pU h
   grind
  have here:(tbl.length<=j\/∃ b,lk L0 j=some b/\b.ro=false)->(x,c)∈(rn tbl new j,Dv (rn tbl new) d)::cj tbl new L0 t->
   ∃ i d',(i,d')∈(j,d)::t/\rn tbl new i=x/\c=d'.map (eT (rn tbl new))/\(tbl.length<=i\/∃ b,lk L0 i=some b/\b.ro=false):=by
   intro hc h
   rcases Z0h.1 h with e|h
   ·simp only[Z0j] at e
    exact⟨j,d,.head _,e.1.symm,by rw[e.2];cases d<;>rfl,hc⟩
   ·exact rest h
  split at h
  ·grind
  ·rename_i hge
   refine here (.inl ?_) h
   rcases Z0a j tbl.length with hl|hl
   ·rw[bd.2 hl] at hge;cases hge
   ·exact hl
theorem qz {tbl:List Nat} {new:Nat} {L0:Hp} {i:Nat} {b:Bl} (hb:lk L0 i=some b) (hro:b.ro=false) (hi:i<tbl.length):∀ {L0':Hp},i∈bP L0'->rn tbl new i∈bP (cj tbl new L0 L0')
 |(j,d)::t,h=>by
  simp only[bP,Z13,Z0h] at h;simp only[cj]
  rcases h with rfl|h
  ·grind [bP]
  ·have ih:=qz (new:=new) hb hro hi (L0':=t) h
   grind [bP]
theorem fS {tbl:List Nat} {new:Nat} {L0 L0' M:Hp} (hs:ep L0 L0'=true) (hn:co (bP L0')=true):xD tbl new L0 L0' M (aA M (cj tbl new L0 L0')):=by
 intro x bl hx;by_cases hk:x∈bP (cj tbl new L0 L0')
 ·left
  obtain⟨c,hc,he⟩:=jG _ M x hk;rw[he] at hx;subst hx;obtain⟨i,d,h1,h2,h3,h4⟩:=pU hc
  cases d with
  |none=>simp at h3
  |some bl0=>exact⟨i,bl0,h2,mR hn h1,by simpa using h3,h4⟩
 ·right
  rw[cG _ _ _ hk] at hx;refine⟨hx,λi hi e b hb=>?_⟩
  cases hro:b.ro with
  |true=>rfl
  |false=>
   exfalso;have h1:=Z0i.1 hs _ (c_ hb);have h2:i∈bP L0':=ae;have:=qz (tbl:=tbl) (new:=new) hb hro hi h2
   grind [gi]
theorem xv {f:FuncId} (ho:o.op=.call c) (hc:c.callee=.value (.func f))
 (h:sB P f (c.args.toList.map (ev env)) n L ans=some out) (hC:out.C):OutOK P o env n L out:=by
 unfold sB at h;split at h
 ·rename_i tbl args0 L0 v0 n0' L0' as_
  split at h
  ·rename_i hchk
   rw[fh,cO] at h;cases h;simp only[Z07] at hchk;obtain⟨⟨⟨⟨k1,k2⟩,k3⟩,k4⟩,k5⟩:=hchk;obtain⟨hf,hsc,hargs,ft⟩:=hC;unfold oz at hf;split at hf
   ·rename_i fn hfn
    simp only[Z07,Z0v] at hf;exact⟨hsc.op k1 k2 ho hc hfn hf.1 hf.2 hargs ft (fS k3 k4),Z1o _ _⟩
   ·cases hf
  ·cases h
 ·cases h
def XT (P:Program) (f:FuncId) (args:List V) (v:V):Prop:=∀ (φ:Ph) (xs:List Value) (w:World),All2 (Vr φ) args xs->∃ y,(callFunc f xs.toArray).run P w=.ok (.value y) w/\Vr φ v y
theorem XT.op {f:FuncId} {v:V} (ho:o.op=.call c) (hc:c.callee=.value (.func f)) (h:XT P f (c.args.toList.map (ev env)) v):OpL P o env n L v n L:=by
 refine OpL.light λφ a w hop _=>?_
 have hxs:All2 (Vr φ) (c.args.toList.map (ev env)) (c.args.toList.map a.eval):=by
  have key:∀ l:List Operand,(∀ x∈l,Vr φ (ev env x) (a.eval x))->All2 (Vr φ) (l.map (ev env)) (l.map a.eval):=by
   intro l
   induction l with
   |nil=>intro _;trivial
   |cons y t ih=>intro hl;exact⟨hl y (.head _),ih λx hx=>hl x (.tail _ hx)⟩
  grind [Op.operands,Call.operands]
 obtain⟨y,hy,hv⟩:=h φ _ w hxs;refine⟨y,?_,hv⟩;have e:(c.args.toList.map a.eval).toArray=c.args.map a.eval:=ae;rw[e] at hy;simp only[execOp,ho,resolve,hc,Deferred.ofValue,Act.eval,invoke,Z09,Z0f,Z05]
 grind
def It (n:Nat) (x:V) (ans:List Ans):Option Out:=match x with| .s (.ptr (some p))=>lt n (.s (.ptr (some p))) ans True|_=>none
theorem Is {x:Operand} (ho:o.op=.nilCheck x) (h:It n (ev env x) ans=some out):OutOK P o env n L out:=by
 unfold It at h;split at h
 ·rename_i p hx
  refine gJ h λφ a w hop=>?_
  have g:=hop x (by simp[ho,Op.operands]);rw[hx] at g;refine⟨a.eval x,?_,g⟩;obtain⟨i,q⟩:=p;obtain⟨b,_,hv⟩:=g;simp only[execOp,ho,hv,Z0f]
 ·cases h
def mn (P:Program) (b:Builtin) (ts:Array TypeId) (n:Nat) (L:Hp) (args:List V) (ans:List Ans):Option Out:=
 match b,args with
 | .len,[x]=>match ts[0]? with|some t=>(match K6 P t x with|some s=>pN n (some (s,ans,True))|none=>none)|none=>none
 | .min,[x,y]=>pN n (kz false x y ans)
 | .max,[x,y]=>pN n (kz true x y ans)
 | .copy,[x,y]=>Gc P ts n L (iF x) (iF y) ans
 | .append,[x,y]=>match ans with| .keep::as_=>Gh P ts n L x (iF y) as_| .eager::as_=>pf P ts n L false x (iF y) as_|ans=>pf P ts n L true x (iF y) ans
 |_,_=>none
def GA (P:Program) (o:Oper) (env:List V) (n:Nat) (L:Hp) (ans:List Ans):Option Out:=
 match o.op with
 | .move x=>lt n (ev env x) ans True
 | .assign x=>lt n (ev env x) ans True
 | .pick c a b=>
   match ev env c with
   | .s (.bool t)=>match t with|true=>lt n (ev env a) ans True|false=>lt n (ev env b) ans True
   |_=>none
 | .binOp op t x y _=>pN n (Bm P op t (iF (ev env x)) (iF (ev env y)) ans)
 | .unOp op _ x=>pN n (aUn op (ev env x) ans)
 | .convert src dst x=>
   match P.underlying src,P.underlying dst with
   |some (.slice _),some .string=>uB P n L src dst (iF (ev env x)) ans
   |some .string,some (.slice _)=>ml P n src dst (ev env x) ans
   |_,_=>pN n (uE P src dst (ev env x) ans)
 | .makeSlice t l c=>Bj P n t (ev env l) (ev env c) ans
 | .slice t x lo hi mx=>
   match ans with
   | .win k h cs::as_=>F8 P n L t (ev env x) (lo.map (ev env)) (hi.map (ev env)) (mx.map (ev env)) k h cs as_
   | .wlz k h::as_=>xp P n t (ev env x) (lo.map (ev env)) (hi.map (ev env)) (mx.map (ev env)) k h as_
   |ans=>qJ P n t (iF (ev env x)) (lo.map λy=>iF (ev env y)) (hi.map λy=>iF (ev env y)) (mx.map λy=>iF (ev env y)) ans
 | .build t parts=>uF P n t (lI env parts) ans
 | .buildSlice t len parts=>gP P n t len (lI env parts) ans
 | .field t x f=>pe P n t (ev env x) f ans
 | .extract x i=>match Iy (ev env x) i with|some v=>lt n v ans True|none=>none
 | .load t a=>Bk P n L t (ev env a) ans
 | .store t a x=>
   match ans with
   | .stw cs cells::as_=>pd P n L t (ev env a) (ev env x) cs cells as_
   |ans=>nF P n L t (ev env a) (ev env x) ans
 | .alloc t=>uH P n t ans
 | .box t x=>IA n t (ev env x) ans
 | .fieldAddr s x f=>uD P n s (ev env x) f ans
 | .indexAddr t x ix=>iZ P n t (iF (ev env x)) (iF (ev env ix)) ans
 | .index t x ix=>uC P n t (ev env x) (ev env ix) ans
 | .nilCheck x=>It n (ev env x) ans
 | .call c=>
   match c.callee with
   | .value (.func f)=>
     match ans with
     | .ext args0 v::as_=>jg v λv=>some ⟨⟨[],v,[],n⟩,as_,c.args.toList.map (ev env)=args0/\XT P f args0 v⟩
     | .callw tbl args0 L0 v0 n0' L0'::as_=>sB P f (c.args.toList.map λy=>iF (ev env y)) n L (.call tbl args0 L0 v0 n0' L0'::as_)
     |ans=>sB P f (c.args.toList.map (ev env)) n L ans
   | .builtin b=>mn P b c.argTypes n L (c.args.toList.map (ev env)) ans
   |_=>none
 |_=>none
theorem xw {b:Builtin} (ho:o.op=.call c) (hc:c.callee=.builtin b)
 (h:mn P b c.argTypes n L (c.args.toList.map (ev env)) ans=some out) (hC:out.C):OutOK P o env n L out:=by
 have ops:∀ x∈c.args.toList,x∈o.op.operands:=λx hx=>by
  grind [Op.operands,Call.operands]
 unfold mn at h;split at h
 ·rename_i x hargs
  obtain⟨x0,hx0,rfl⟩:∃ x0,c.args.toList=[x0]/\ev env x0=x:=by
   match hl:c.args.toList,hargs with
   |[x0],hargs=>exact⟨x0,rfl,ae⟩
  split at h
  ·rename_i t ht
   split at h
   ·rename_i s hs
    refine kj h hC λs' as_ C e _ φ a w hop=>?_
    cases e;have g:=hop x0 (ops x0 ae);obtain⟨y,hy,hr⟩:=Iw (P:=P) hs g (ty:=o.type) ht w
    have ea:c.args.map a.eval= #[a.eval x0]:=by apply Z3v;simp[hx0]
    exact⟨y,by simp only[execOp,ho,resolve,hc,Z09,Z0f,Z05,invoke,builtin,ea,hy],hr⟩
   ·cases h
  ·cases h
 ·rename_i x y hargs
  obtain⟨x0,y0,hx0,rfl,rfl⟩:∃ x0 y0,c.args.toList=[x0,y0]/\ev env x0=x/\ev env y0=y:=by
   match hl:c.args.toList,hargs with
   |[x0,y0],hargs=>exact⟨x0,y0,rfl,ae⟩
  refine kj h hC λs' as_ C e hC φ a w hop=>?_
  have g1:=hop x0 (ops x0 ae);have g2:=hop y0 (ops y0 ae);obtain⟨v,hv,hr⟩:=Iu (P:=P) e hC g1 g2 (ts:=c.argTypes) (ty:=o.type) w
  have ea:c.args.map a.eval= #[a.eval x0,a.eval y0]:=by apply Z3v;simp[hx0]
  exact⟨v,by simp only[execOp,ho,resolve,hc,Z09,Z0f,Z05,invoke,builtin,ea,hv],hr⟩
 ·rename_i x y hargs
  obtain⟨x0,y0,hx0,rfl,rfl⟩:∃ x0 y0,c.args.toList=[x0,y0]/\ev env x0=x/\ev env y0=y:=by
   match hl:c.args.toList,hargs with
   |[x0,y0],hargs=>exact⟨x0,y0,rfl,ae⟩
  refine kj h hC λs' as_ C e hC φ a w hop=>?_
  have g1:=hop x0 (ops x0 ae);have g2:=hop y0 (ops y0 ae);obtain⟨v,hv,hr⟩:=Iv (P:=P) e hC g1 g2 (ts:=c.argTypes) (ty:=o.type) w
  have ea:c.args.map a.eval= #[a.eval x0,a.eval y0]:=by apply Z3v;simp[hx0]
  exact⟨v,by simp only[execOp,ho,resolve,hc,Z09,Z0f,Z05,invoke,builtin,ea,hv],hr⟩
 ·rename_i x y hargs
  obtain⟨x0,y0,hx0,rfl,rfl⟩:∃ x0 y0,c.args.toList=[x0,y0]/\ev env x0=x/\ev env y0=y:=by
   match hl:c.args.toList,hargs with
   |[x0,y0],hargs=>exact⟨x0,y0,rfl,ae⟩
  rw[<-nZ,<-nZ] at h;exact OutOK.wk (Gb ho hc hx0 h hC)
 ·rename_i x y hargs
  obtain⟨x0,y0,hx0,rfl,rfl⟩:∃ x0 y0,c.args.toList=[x0,y0]/\ev env x0=x/\ev env y0=y:=by
   match hl:c.args.toList,hargs with
   |[x0,y0],hargs=>exact⟨x0,y0,rfl,ae⟩
  grind [Gg,zy]
 ·cases h
theorem gA (h:GA P o env n L ans=some out) (hC:out.C):OutOK P o env n L out:=by
 unfold GA at h;split at h
 ·rename_i x ho
  exact gJ h λφ a w hop=>⟨_,by simp only[execOp,ho,Z0f],hop x (by simp[ho,Op.operands])⟩
 ·rename_i x ho
  exact gJ h λφ a w hop=>⟨_,by simp only[execOp,ho,Z0f],hop x (by simp[ho,Op.operands])⟩
 ·rename_i c x y ho
  split at h
  ·rename_i t hc
   split at h
   ·exact gJ h λφ a w hop=>by
     have g:=hop c (by simp[ho,Op.operands]);rw[hc] at g;simp only[Vr,Sr] at g;exact⟨_,by simp only[execOp,ho,g,asBool,Z09,Z0f,Z05,if_true],hop x (by simp[ho,Op.operands])⟩
   ·exact gJ h λφ a w hop=>by
     have g:=hop c (by simp[ho,Op.operands]);rw[hc] at g;simp only[Vr,Sr] at g;exact⟨_,by simp only[execOp,ho,g,asBool,Z09,Z0f,Z05,Z0l,if_false],hop y (by simp[ho,Op.operands])⟩
  ·cases h
 ·rename_i op t x y ty ho
  refine kj h hC λs as_ C e hC φ a w hop=>?_
  obtain⟨v,hv,hr⟩:=Gf (P:=P) (ox:=x) (oy:=y) e hC (uQ (hop x (by simp[ho,Op.operands]))) (uQ (hop y (by simp[ho,Op.operands]))) w;exact⟨v,by simp only[execOp,ho];rw[Z09,hv];rfl,hr⟩
 ·rename_i op t x ho
  refine kj h hC λs as_ C e hC φ a w hop=>?_
  obtain⟨v,hv,hr⟩:=K5 (P:=P) e hC (hop x (by simp[ho,Op.operands])) w;exact⟨v,by simp only[execOp,ho];rw[Z09,hv];rfl,hr⟩
 ·rename_i src dst x ho
  split at h
  ·rw[<-nZ] at h;exact OutOK.wk (Cv ho h hC)
  ·exact xq ho h
  ·refine kj h hC λs as_ C e hC φ a w hop=>?_
   obtain⟨v,hv,hr⟩:=CA (P:=P) e hC (hop x (by simp[ho,Op.operands])) w;exact⟨v,by simp only[execOp,ho];rw[Z09,hv];rfl,hr⟩
 ·grind [F9]
 ·rename_i t x lo hi mx ho
  split at h
  ·exact Ir ho h hC
  ·exact F7 ho h hC
  ·simp only[<-nZ] at h
   exact OutOK.wk (Cw ho h hC)
 ·grind [CB]
 ·grind [qL]
 ·grind [zw]
 ·rename_i x i ho
  split at h
  ·rename_i v hv
   exact gJ h λφ a w hop=>by
    obtain⟨y,hy,hr⟩:=Ix (P:=P) hv (hop x (by simp[ho,Op.operands])) w;exact⟨y,by simp only[execOp,ho];rw[Z09,hy];rfl,hr⟩
  ·cases h
 ·grind [F_]
 ·grind [zu,sx]
 ·rename_i t ho;exact CC ho h
 ·rename_i t x ho;exact Iz ho h
 ·grind [Cz]
 ·rename_i t x ix ho
  rw[<-nZ,<-nZ] at h;exact OutOK.wk (rz ho h hC)
 ·grind [Cy]
 ·rename_i x ho;exact Is ho h
 ·rename_i c ho
  split at h
  ·rename_i f hc
   split at h
   ·rw[fh] at h
    cases h;obtain⟨e,hx⟩:=hC;exact⟨XT.op ho hc (e▸hx),Z02 _⟩
   ·simp only[<-nZ] at h
    exact OutOK.wk (xv ho hc h hC)
   ·exact xv ho hc h hC
  all_goals grind [xw]
 ·cases h
abbrev Gs:=List (Nat×Option Bool)
def AF:Gs->Nat->Option Bool
 |[],_=>none
 |(j,c)::t,i=>match Nat.beq j i with|true=>c|false=>AF t i
def gBad (gs:Gs) (t:Nat):Prop:=AF gs t=some false
def uP (gs:Gs):List Operand->List Bool
 |[]=>[]
 | .tmp t::r=>match AF gs t with|some c=>c::uP gs r|none=>uP gs r
 |_::r=>uP gs r
def opG (gs:Gs):Operand->Prop
 | .tmp t=> ¬gBad gs t
 |_=>True
def LR (envS:List V) (gs:Gs) (envA:List V):Prop:=envA.length=envS.length/\∀ t,envA.getD t .undef=match AF gs t with|some false=> .undef|_=>envS.getD t .undef
theorem LR.ev {gs:Gs} (h:LR envS gs envA) {x:Operand} (hx:opG gs x):ev envA x=ev envS x:=by
 cases x with
 |tmp t=>
  have:=h.2 t;split at this
  ·rename_i e;exact absurd e hx
  ·exact this
 |_=>rfl
def pW (acc:List Nat) (o:Oper):Nat:=o.after.toList.foldl (λs e=>match Region.binds .any e with|true=>s|||(2^e.on|||acc.getD e.on 0)|false=>s) 0
def vU:List Oper->List Nat->List Nat
 |[],acc=>acc
 |o::t,acc=>vU t (acc++[pW acc o])
def nb (a b:List Nat):Bool:=a.all λx=> !b.elem x
def qw (ops:Array Oper) (x y:Row):Bool:=
 !(nb x.1.dst.toList (y.1.dst.toList++looks ops y.1)&&nb y.1.dst.toList (looks ops x.1)&&nb (bP x.2.wr) (bP y.2.wr++y.2.foot)&&nb (bP y.2.wr) x.2.foot)
def jf (ops:Array Oper) (rows:List Row):Bool:=
 let ms:=vU ops.toList []
 (ops.toList.zipIdx.all λ(o,i)=>o.after.toList.all λe=> !Region.binds .any e||Nat.blt e.on i)&&
 rows.zipIdx.all λ(y,j)=>rows.zipIdx.all λ(x,i)=> !Nat.blt i j|| !qw ops x y||(ms.getD j 0).testBit i
theorem yt {D:Nat->Bool} {acc:List Nat} {i:Nat} (hacc:∀ k,k<acc.length->∀ i,(acc.getD k 0).testBit i=true->D k=true->D i=true) (hlen:∀ e∈o.after.toList,Region.binds .any e=true->e.on<acc.length)
 (hD:∀ e∈o.after.toList,Region.binds .any e=true->D e.on=true) (h:(pW acc o).testBit i=true):D i=true:=by
 have key:∀ (l:List Edge) (s:Nat),(∀ e∈l,e∈o.after.toList)->(s.testBit i=true->D i=true)->
  ((l.foldl (λs e=>match Region.binds .any e with|true=>s|||(2^e.on|||acc.getD e.on 0)|false=>s) s).testBit i=true->D i=true):=by
  intro l
  induction l with
  |nil=>grind
  |cons e t ih=>
   intro s hm hs;simp only[Z2s];refine ih _ (λe' he'=>hm e' (.tail _ he')) ?_
   cases hb:Region.binds .any e with
   |false=>exact hs
   |true=>
    intro hbit;simp only[Nat.testBit_or,Z1h,Nat.testBit_two_pow,decide_eq_true_eq] at hbit
    rcases hbit with h|rfl|h
    ·exact hs h
    ·exact hD e (hm e (.head _)) hb
    ·exact hacc _ (hlen e (hm e (.head _)) hb) i h (hD e (hm e (.head _)) hb)
 exact key _ 0 (λ_ h=>h) aq h
theorem vT {ops:Array Oper} {D:Nat->Bool} (hc:j0 ops D) (down:∀ (i:Nat) o,ops[i]? =some o->∀ e∈o.after.toList,Region.binds .any e=true->e.on<i):
 ∀ (l:List Oper) (acc:List Nat),(∀ j,ops[acc.length+j]? =l[j]?)->(∀ k,k<acc.length->∀ i,(acc.getD k 0).testBit i=true->D k=true->D i=true)->
   ∀ k,k<(vU l acc).length->∀ i,((vU l acc).getD k 0).testBit i=true->D k=true->D i=true
 |[],acc,_,h=>h
 |o::t,acc,ho,h=>by
  simp only[vU]
  have hmem:ops[acc.length]? =some o:=by simpa using ho 0
  refine vT hc down t (acc++[pW acc o]) (λj=>by
   have:=ho (j+1);simp only[Z03,Z04,Z0e,Z0c]
   rw[show acc.length+1+j=acc.length+(j+1) by omega,this];simp) ?_
  intro k hk i hbit hDk;simp only[Z03,Z04,Z0e,Z0c] at hk
  rcases Z0a k acc.length with hlt|hge
  ·grind
  ·obtain rfl:k=acc.length:=aa
   have e:(acc++[pW acc o]).getD acc.length 0=pW acc o:=ae;rw[e] at hbit;exact yt h (λe he hb=>down _ _ hmem e he hb) (λe he hb=>hc _ _ hmem hDk e he hb) hbit
theorem kw {a b:List Nat} {x:Nat} (h:nb a b=true) (ha:x∈a) (hb:x∈b):False:=by
 have:=Z0i.1 h x ha
 grind
theorem Hc {rows:List Row} (hops:rows.map (·.1)=ops.toList) (h:jf ops rows=true):RegOK ops rows:=by
 unfold jf at h;simp only[Z07] at h;obtain⟨h1,h2⟩:=h
 have down:∀ (i:Nat) o,ops[i]? =some o->∀ e∈o.after.toList,Region.binds .any e=true->e.on<i:=by
  intro i o hi e he hb;have:=Z0i.1 h1 (o,i) (Z56.2 ae);have:=Z0i.1 this e he;simp only[hb,Z2z,Z46] at this;exact bd.1 this
 have hlen:rows.length=ops.size:=by rw[<-Z28,<-hops,Z0z]
 have bef:∀ (i j:Nat) (x y:Row),i<j->rows[i]? =some x->rows[j]? =some y->qw ops x y=true->Jq ops i j:=by
  intro i j x y hij hi hj hcf D hc hD;have g1:=Z0i.1 h2 (y,j) (Z56.2 hj);have g2:=Z0i.1 g1 (x,i) (Z56.2 hi);simp only[bd.2 hij,hcf,Z2z,Z46] at g2
  grind [vT]
 refine⟨hops,down,?_,?_⟩
 ·intro i j oi ri oj rj t hij hi hj hcase
  refine bef i j _ _ hij hi hj ?_;unfold qw
  cases hcf:(nb oi.dst.toList (oj.dst.toList++looks ops oj)&&nb oj.dst.toList (looks ops oi)&&nb (bP ri.wr) (bP rj.wr++rj.foot)&&nb (bP rj.wr) ri.foot) with
  |false=>rfl
  |true=>
   exfalso;simp only[Z07] at hcf;obtain⟨⟨⟨c1,c2⟩,c3⟩,c4⟩:=hcf
   rcases hcase with ⟨e1,e2|e2⟩|⟨e1,e2⟩
   ·exact kw c1 (x:=t) ae ae
   ·exact kw c1 (x:=t) ae ae
   ·exact kw c2 (x:=t) ae e2
 ·intro i j oi ri oj rj t hij hi hj hcase
  refine bef i j _ _ hij hi hj ?_;unfold qw
  cases hcf:(nb oi.dst.toList (oj.dst.toList++looks ops oj)&&nb oj.dst.toList (looks ops oi)&&nb (bP ri.wr) (bP rj.wr++rj.foot)&&nb (bP rj.wr) ri.foot) with
  |false=>rfl
  |true=>
   exfalso;simp only[Z07] at hcf;obtain⟨⟨⟨c1,c2⟩,c3⟩,c4⟩:=hcf
   rcases hcase with ⟨e1,e2|e2⟩|⟨e1,e2⟩
   ·exact kw c3 e1 (by simp[e2])
   ·exact kw c3 e1 (by simp[e2])
   ·exact kw c4 e1 e2
def To (b n:Nat) (env:List V) (L:Hp) (env':List V) (L':Hp):Prop:=
 ∀ (φ₀ φ:Ph) (L₀:Hp) (w₀ w:World) (a:Act),EnvR φ env a->Good φ L w->Stp φ₀ L₀ w₀ φ L w->
   ∃ φ':Ph,EnvR φ' env' a/\Good φ' L' w/\(∀ i,n<=i->φ' i=none)/\Stp φ₀ L₀ w₀ φ' L' w/\(∀ i,i<b->φ' i=φ i)
end
section
variable {P:Program} {n n0':Nat} {M L:Hp} {f:FuncId}
theorem EndOK.plain {fn:Func} {v:V} {env:List V} (h1:gC P fn env M=some (cb (rn (List.range n++[]) 0) v))
 (h2:∀ i bl,lk L i=some bl->lk M (rn (List.range n++[]) 0 i)=some (eT (rn (List.range n++[]) 0) bl)) (h3:fI n v=true) (h4:fg n L=true):EndOK P fn n v n L [] env M:=
 .nodup h1 h2 h3 h4 rfl ae
theorem J9 {r:Nat->Nat}:∀ i bl,lk ([]:Hp) i=some bl->lk M (r i)=some (eT r bl):=λ_ _ h=>by simp[lk] at h
def ry (tbl:List Nat) (L0:Hp):Bool:=L0.all λx=>L0.all λy=>Nat.beq x.1 y.1|| !Nat.beq (tbl.getD x.1 0) (tbl.getD y.1 0)||((match x.2 with|some b=>b.ro|none=>true)&&(match y.2 with|some b=>b.ro|none=>true))
def qW (tbl:List Nat) (new n0':Nat):Bool:=tbl.all λx=> !(Nat.ble new x&&Nat.blt x (new+(n0'-tbl.length)))
def FitP (tbl:List Nat) (new:Nat) (M:Hp):Hp->Prop
 |[]=>True
 |(_,none)::t=>FitP tbl new M t
 |(i,some bl0)::t=>(Nat.blt i tbl.length=true/\∃ bl',lk M (tbl.getD i 0)=some bl'/\{eT (rn tbl new) bl0 with ro:=bl'.ro}=bl'/\(bl'.ro=true->bl0.ro=true))/\FitP tbl new M t
theorem FitP.at {tbl:List Nat} {new:Nat} {M:Hp}:∀ {L0:Hp},FitP tbl new M L0->∀ i bl0,(i,some bl0)∈L0->i<tbl.length/\∃ bl',lk M (tbl.getD i 0)=some bl'/\{eT (rn tbl new) bl0 with ro:=bl'.ro}=bl'/\(bl'.ro=true->bl0.ro=true)
 |(j,c)::t,h,i,bl0,hm=>by
  cases hm with
  |head=>exact⟨bd.1 h.1.1,h.1.2⟩
  |tail _ hm=>
   cases c with
   |none=>exact FitP.at (L0:=t) h i bl0 hm
   |some c=>exact FitP.at (L0:=t) h.2 i bl0 hm
theorem Fits.of {tbl:List Nat} {new:Nat} {L0:Hp} (h1:qW tbl new n0'=true) (h2:ry tbl L0=true) (h3:FitP tbl new M L0):Fits tbl new n0' L0 M:=by
 refine⟨λi hi=>?_,λi bl hl=>h3.at i bl (c_ hl),λi j bl bl' hi hj e=>?_⟩
 ·have hm:tbl.getD i 0∈tbl:=ae
  have:=Z0i.1 h1 _ hm;simp only[Z0v,Bool.and_eq_false_iff] at this;rintro⟨a,b⟩
  rcases this with h|h
  ·rw[Z3y a] at h;cases h
  ·rw[bd.2 b] at h;cases h
 ·have g1:=Z0i.1 h2 _ (c_ hi)
  have g2:=Z0i.1 g1 _ (c_ hj);simp only[Z1h,Z0v,Z07] at g2
  rcases g2 with (h|h)|h
  ·exact .inl (Z0q h)
  ·rw[e,Z2n] at h;cases h
  ·exact .inr h
theorem wI:Fits [] n n0' [] M:=⟨λi hi=>by grind,λi bl h=>by simp[lk] at h,λi j bl bl' h=>by simp[lk] at h⟩
end
section
variable {n b:Nat} {env:List V} {P:Program} {L L':Hp} {c:Code}
def pZ (ks:List Nat):Hp->Hp
 |[]=>[]
 |(i,b)::t=>match ks.elem i with|true=>(i,b)::pZ ks t|false=>pZ ks t
theorem mT (ks:List Nat):∀ L:Hp,xy (pZ ks L) L
 |[],i,bl,h=>h
 |(j,b)::t,i,bl,h=>by
  simp only[pZ] at h;rw[aY];split at h
  ·rw[aY] at h
   split
   ·grind
   ·rename_i e;rw[if_neg e] at h;exact mT ks t i bl h
  ·rename_i hk
   have h':=mT ks t i bl h;split
   ·rename_i e;subst e
    exfalso
    have:∀ t:Hp,lk (pZ ks t) j=none:=by
     intro t
     induction t with
     |nil=>rfl
     |cons x t ih=>
      grind [pZ,aY]
    grind
   ·exact h'
theorem Wk.by {env':List V} (keep ks:List Nat) (he:GE keep 0 env=env') (hl:pZ ks L=L') (o1:env'.all (fI n)=true) (o2:fg n L'=true):Wk n env L env' L':=
 Wk.of keep he (hl▸mT ks L) o1 o2
def MemP (r:Nat->Nat) (M:Hp):Hp->Prop
 |[]=>True
 |(_,none)::t=>MemP r M t
 |(i,some bl)::t=>lk M (r i)=some (eT r bl)/\MemP r M t
theorem MemP.at {r:Nat->Nat} {M:Hp}:∀ {L:Hp},MemP r M L->∀ i bl,(i,some bl)∈L->lk M (r i)=some (eT r bl)
 |(j,c)::t,h,i,bl,hm=>by
  cases hm with
  |head=>exact h.1
  |tail _ hm=>
   cases c with
   |none=>exact MemP.at (L:=t) h i bl hm
   |some c=>exact MemP.at (L:=t) h.2 i bl hm
theorem fY {fn:Func} {v:V} {n':Nat} {new:List Nat} {M:Hp} (h1:gC P fn env M=some (cb (rn (List.range n++new) 0) v))
 (h2:MemP (rn (List.range n++new) 0) M L') (h3:fI n' v=true) (h4:fg n' L'=true) (h5:n'=n+new.length) (h6:co (List.range n++new)=true):EndOK P fn n v n' L' new env M:=by
 refine .nodup h1 (λi bl h=>h2.at i bl (c_ h)) h3 h4 h5 ?_
 have:∀ l:List Nat,co l=true->l.Nodup:=by
  intro l
  induction l with
  |nil=>grind
  |cons x t ih=>
   grind [co]
 grind
def Ko (r:Nat->Nat) (L':Hp):Bool:=L'.all λx=>L'.all λy=>match x.2,y.2 with|some _,some _=>Nat.beq x.1 y.1|| !Nat.beq (r x.1) (r y.1)|_,_=>true
def mvB (n:Nat) (r:Nat->Nat) (L':Hp):Bool:=L'.all λx=>match x.2 with|some bl=>Nat.blt x.1 n|| !Nat.blt (r x.1) n|| !bl.ro|none=>true
theorem uI {fn:Func} {v:V} {n':Nat} {new:List Nat} {M:Hp} (h1:gC P fn env M=some (cb (rn (List.range n++new) 0) v))
 (h2:MemP (rn (List.range n++new) 0) M L') (h3:fI n' v=true) (h4:fg n' L'=true) (h5:n'=n+new.length) (h6:Ko (rn (List.range n++new) 0) L'=true) (h7:mvB n (rn (List.range n++new) 0) L'=true):EndOK P fn n v n' L' new env M:=by
 refine⟨h1,λi bl h=>h2.at i bl (c_ h),h3,h4,h5,λi j bl bl' hi hj e=>?_,λj bl hj hjn hlt=>?_⟩
 ·have g:=Z0i.1 (Z0i.1 h6 _ (c_ hi)) _ (c_ hj)
  simp only[Z1h,Z0v] at g
  rcases g with g|g
  ·exact Z0q g
  ·rw[e,Z2n] at g;cases g
 ·have g:=Z0i.1 h7 _ (c_ hj)
  simp only[Z1h,Z0v] at g
  rcases g with (g|g)|g
  ·have:=bd.1 g;omega
  ·rw[bd.2 hlt] at g;cases g
  ·exact g
end
structure LikeB (a b:Bl):Prop where
 ro:a.ro=b.ro
 cells:a.cells=b.cells
 ty:a.ty=b.ty
 more:b.more=a.more\/b.more=true
 flat:a.flat=b.flat\/a.cells.all bZ=true
 gh:∀ g z,b.gh=some (g,z)->a.gh=some (g,z)
 kind:a.kind=b.kind
 abs:∀ g,b.abs=some g->a.abs=some g
theorem qH {φ ψ:Ph} (hz:∀ b l,φ.z b=some l->ψ.z b=some l):∀ {l:List S} {xs:List Value},All2 (Sr φ) l xs->l.all bZ=true->All2 (Sr ψ) l xs
 |[],[],_,_=>trivial
 |_::_,_::_,h,ok=>by
  simp only[Z1b,Z07] at ok;exact⟨An hz ok.1 h.1,qH hz h.2 ok.2⟩
 |[],_::_,h,_=>h.elim
 |_::_,[],h,_=>h.elim
theorem LikeB.at {φ:Ph} {w:World} {x:Nat×Nat} {a b:Bl} (h:LikeB a b) (hat:BlAt φ w x a):BlAt φ w x b:=by
 obtain⟨pre,xs,rest,fr,h1,hp,h2,h3,h4,h5⟩:=hat;refine⟨pre,xs,rest,fr,by rw[<-h.kind,<-h.ty];exact h1,hp,?_,λe=>?_,λe=>h4 (h.ro.trans e),⟨λg z e=>h5.1 g z (h.gh g z e),λg e=>h5.2 g (h.abs g e)⟩⟩
 ·rcases h.flat with e|e
  all_goals grind [h.cells,Bl.ph,qH]
 ·rcases h.more with e'|e'
  all_goals grind
section
variable {b n:Nat} {env:List V} {L:Hp} {P:Program} {c:Code}
def idB (b:Nat) (tbl:List Nat) (L':Hp):Bool:=
 (List.range b).all (λi=>Nat.beq (tbl.getD i 0) i)&&L'.all λx=>match x.2 with|some bl=>Nat.beq (tbl.getD x.1 0) x.1|| !bl.ro|none=>true
theorem To.ren {env':List V} {L':Hp} (keep tbl:List Nat) (he:GE keep 0 env=env'.map (cb (rn tbl 0))) (hl:MemP (rn tbl 0) L L') (o1:env'.all (fI tbl.length)=true) (o2:fg tbl.length L'=true) (hn:Ko (rn tbl 0) L'=true) (hid:idB b tbl L'=true) (hb:b<=tbl.length):
 To b tbl.length env L env' L':=by
 intro φ₀ φ L₀ w₀ w a h1 h2 h3;simp only[idB,Z07] at hid
 let r:=rn tbl 0
 have hro:∀ i,i<tbl.length->r i=tbl.getD i 0:=λi hi=>gi hi
 have hinj:∀ i j bl bl',lk L' i=some bl->lk L' j=some bl'->r i=r j->i=j:=by
  intro i j bl bl' hi hj e;have g:=Z0i.1 (Z0i.1 hn _ (c_ hi)) _ (c_ hj);simp only[Z1h,Z0v] at g
  rcases g with g|g
  ·exact Z0q g
  ·have e':rn tbl 0 i=rn tbl 0 j:=e
   rw[e',Z2n] at g;cases g
 refine⟨aH tbl.length (φ.ren r),⟨h1.1,?_⟩,⟨λi bl hi=>?_,λi j bl bl' c c' hi hj hc hc' hcc=>?_,λx l hx=>⟨(h2.fz x l hx).1,?_⟩,h2.gz⟩,λi hi=>by simp[aH];omega,⟨h3.os,h3.tape,h3.output,h3.size,h3.keep,λj bl c hj hc hlt=>?_,h3.zle,h3.zfr⟩,λi hi=>?_⟩
 rotate_left 3
 ·rintro⟨i,bl,c,hi,hc,hcb,hro⟩
  have hi':=(dD o2 hi).1;simp only[aH,if_pos hi'] at hc;exact (h2.fz x l hx).2 ⟨_,_,c,hl.at i bl (c_ hi),hc,hcb,by rw[dU];exact hro⟩
 rotate_left 2
 ·refine kx ?_ o1
  have:=CK (keep:=keep) (i:=0) h1.2;rw[he] at this
  have key:∀ (l:List V) (xs:List Value),All2 (Vr φ) (l.map (cb r)) xs->All2 (Vr (φ.ren r)) l xs:=by
   intro l
   induction l with
   |nil=>intro xs hl;cases xs<;>first|trivial|exact hl.elim
   |cons y t ih=>intro xs hl;cases xs with
    |nil=>exact hl.elim
    |cons x xs=>exact⟨uJ.1 hl.1,ih xs hl.2⟩
  grind
 ·obtain⟨c,hc,hat⟩:=h2.hr _ _ (hl.at i bl (c_ hi))
  obtain⟨hlt,hok⟩:=dD o2 hi;exact⟨c,by simp only[aH,if_pos hlt];exact hc,(mq.1 hat).cut hok⟩
 ·have hi':=(dD o2 hi).1
  have hj':=(dD o2 hj).1;simp only[aH,if_pos hi'] at hc;simp only[aH,if_pos hj'] at hc'
  rcases h2.inj _ _ _ _ c c' (hl.at i bl (c_ hi)) (hl.at j bl' (c_ hj)) hc hc' hcc with e|e
  all_goals grind [dU]
 ·have hj':=(dD o2 hj).1
  simp only[aH,if_pos hj'] at hc;obtain⟨k,bk,d,hk,hpk,hdd,hr,ho⟩:=h3.fresh _ _ c (hl.at j bl (c_ hj)) hc hlt;rw[dU] at hr;refine⟨k,bk,d,hk,hpk,hdd,hr,?_⟩
  rcases ho with ho|ho
  ·have:=Z0i.1 hid.2 _ (c_ hj)
   simp only[Z1h,Z0v] at this
   rcases this with e|e
   ·refine .inl ?_
    have e:=Z0q e
    grind
   all_goals grind
  ·exact .inr ho
 ·have hit:i<tbl.length:=aa
  have:=Z0i.1 hid.1 i ae;have:=Z0q this
  grind [aH]
theorem Ex.loopT {R:Post} (I:Nat->List V->Hp->Prop) (hb:b<=n)
 (step:∀ k env L,I (k+1) env L->Ex P b c env n L λx e m M=>(x=.normal/\∃ e' M',To b n e M e' M'/\I k e' M')\/(x≠.normal/\R x e m M))
 (last:∀ env L,I 0 env L->Ex P b c env n L λx e m M=>x≠.normal/\R x e m M):
 ∀ k env L,I k env L->Ex P b (.loop c) env n L R:=by
 intro k env L hI φ a w h1 h2 h3 h4;refine wp_loop_rounds (k+1) ?_
 have key:∀ k env L φ₁ a₁ w₁,I k env L->EnvR φ₁ env a₁->Good φ₁ L w₁->(∀ i,n<=i->φ₁ i=none)->∀ (φ₀:Ph) (L₀:Hp) (w₀:World),Stp φ₀ L₀ w₀ φ₁ L w₁->(∀ i,i<b->φ₁ i=φ₀ i)->
  Code.rounds P c (λx a' w'=>∃ φ' env' n' L',R x env' n' L'/\EnvR φ' env' a'/\Good φ' L' w'/\(∀ i,n'<=i->φ' i=none)/\b<=n'/\Stp φ₀ L₀ w₀ φ' L' w'/\(∀ i,i<b->φ' i=φ₀ i)) (k+1) a₁ w₁:=by
  intro k
  induction k with
  |zero=>
   intro env L φ₁ a₁ w₁ hI h1 h2 h3 φ₀ L₀ w₀ h5 h6;rw[rounds_succ];refine wp_mono (last env L hI φ₁ a₁ w₁ h1 h2 h3 hb) ?_;rintro x a' w' ⟨φ',e,m,M,⟨hx,hR⟩,k1,k2,k3,k4,k5,k6⟩
   cases x with
   |normal=>grind
   |_=>exact⟨φ',e,m,M,hR,k1,k2,k3,k4,h5.trans k5,λi hi=>(k6 i hi).trans (h6 i hi)⟩
  |succ k ih=>
   intro env L φ₁ a₁ w₁ hI h1 h2 h3 φ₀ L₀ w₀ h5 h6;rw[rounds_succ];refine wp_mono (step k env L hI φ₁ a₁ w₁ h1 h2 h3 hb) ?_;rintro x a' w' ⟨φ',e,m,M,hcase,k1,k2,k3,k4,k5,k6⟩
   rcases hcase with ⟨rfl,e',M',hwk,hI'⟩|⟨hx,hR⟩
   ·simp only[Exit.then]
    obtain⟨φ2,g1,g2,g3,g4,g5⟩:=hwk φ₀ φ' L₀ w₀ w' a' k1 k2 (h5.trans k5)
    grind
   ·cases x with
    |normal=>grind
    |_=>exact⟨φ',e,m,M,hR,k1,k2,k3,k4,h5.trans k5,λi hi=>(k6 i hi).trans (h6 i hi)⟩
 exact key k env L φ a w hI h1 h2 h3 φ L w (Stp.refl _ _ _) (λ_ _=>rfl)
def ou (b:Nat) (tbl:List Nat) (e:List V) (H:Hp):Bool:=e.all (fI tbl.length)&&fg tbl.length H&&Ko (rn tbl 0) H&&idB b tbl H&&Nat.ble b tbl.length
theorem To.by {env':List V} {L':Hp} (keep tbl:List Nat) (hn:tbl.length=n) (he:GE keep 0 env=env'.map (cb (rn tbl 0))) (hl:MemP (rn tbl 0) L L') (ok:ou b tbl env' L'=true):To b n env L env' L':=by
 subst hn;simp only[ou,Z07] at ok;exact To.ren keep tbl he hl ok.1.1.1.1 ok.1.1.1.2 ok.1.1.2 ok.1.2 (Z1y ok.2)
end
