import Derived.Test.YtegjgpldfgjoiaaGreatDoorCnD17
import Derived.Test.YtegjgpldfgjoiaaGreatDoorCnD19
set_option linter.all false
set_option maxHeartbeats 40000000
set_option maxRecDepth 100000
namespace Go.Proofs.YtegjgpldfgjoiaaGreatDoor
open Go Ab
inductive Ends (p:List Nd) (e:Nat):Nat->Nat->Prop
 |done:Ends p e 0 e
 |step {n i:Nat} (h:i<p.length) (k:Nat) (hk:(p.getD i dN).kids=k) (r:Ends p e (n+k) (i+1)):Ends p e (n+1) i
theorem o_ (op kids:Int) (h:(aq op kids).2=true):((aq op kids).1.length:Int)=kids:=by
 unfold aq at*;split at h
 ·split at h
  ·cases h
  ·rename_i h5 h7
   simp only[if_pos h5,if_neg h7,Z19];show ((min kids.toNat 7:Nat):Int)=kids;omega
 ·split at h
  ·split at h
   ·cases h
   ·rename_i h5 h33 h7
    simp only[if_neg h5,if_pos h33,if_neg h7,Z19];show ((min kids.toNat 7:Nat):Int)=kids;omega
  all_goals grind
theorem Ends.kids {p:List Nd} {ch:Int->Nat->Option Nat} (hch:∀ k i e,ch k i=some e->∀ n e',Ends p e' n e->Ends p e' (n+1) i):∀ (ks:By) (i e:Nat),dO ch ks i=some e->∀ n e',Ends p e' n e->Ends p e' (n+ks.length) i
 |[],i,e,h,n,e',r=>by grind [dO]
 |k::ks,i,e,h,n,e',r=>by
  simp only[dO] at h;split at h
  ·rename_i e1 h1
   exact hch _ _ _ h1 _ _ (Ends.kids hch ks e1 e h n e' r)
  ·cases h
theorem Ends.block {p:List Nd} {rec:Nat->Option Nat} (hr:∀ i e,rec i=some e->∀ n e',Ends p e' n e->Ends p e' (n+1) i):∀ (k i e:Nat),cx rec k i=some e->∀ n e',Ends p e' n e->Ends p e' (n+k) i
 |0,i,e,h,n,e',r=>by grind [cx]
 |k+1,i,e,h,n,e',r=>by
  simp only[cx] at h;split at h
  ·rename_i e1 h1
   exact hr _ _ h1 _ _ (Ends.block hr k e1 e h n e' r)
  ·cases h
def tP (p:List Nd) (E:Nat->Int->Option Nat):Prop:=∀ i k e,E i k=some e->∀ n e',Ends p e' n e->Ends p e' (n+1) i
theorem Ends.elemS {p:List Nd} {ok:Bool} {E0 E1:Nat->Int->Option Nat} (h0:tP p E0) (h1:tP p E1):tP p (elemS p ok E0 E1):=by
 intro i k e h n e' r;unfold Go.Proofs.YtegjgpldfgjoiaaGreatDoor.elemS at h;split at h
 ·cases h
 ·rename_i x hx
  split at h
  ·rename_i hc
   have hi:i<p.length:=by
    grind
   have hxe:p.getD i dN=x:=ae;refine Ends.step hi (aq x.op x.kids).1.length (by grind [o_]) ?_;refine Ends.kids (λk i e hch n e' r=>?_) _ _ _ h n e' r;unfold de at hch;split at hch
   ·split at hch
    ·cases hch
    ·rename_i y hy
     split at hch
     ·rename_i hb
      have hi2:i<p.length:=by
       grind
      have hye:p.getD i dN=y:=ae;refine Ends.step hi2 y.kids.toNat ae ?_;exact Ends.block (λi e h=>h1 i k e h) _ _ _ hch n e' r
     ·cases hch
   ·exact h0 i k e hch n e' r
  ·cases h
theorem Ends.elemF {p:List Nd}:∀ f,tP p (elemF p f)/\tP p (Go.Proofs.YtegjgpldfgjoiaaGreatDoor.elemF p (f+1))
 |0=>by
  refine⟨λi k e h=>(by cases h),?_⟩;rw[d9];exact Ends.elemS (λi k e h=>by cases h) (λi k e h=>by cases h)
 |f+1=>by
  have ih:=Ends.elemF (p:=p) f
  grind [d9,Ends.elemS]
theorem Ends.le {p:List Nd} {e n i:Nat} (h:Ends p e n i):i+n<=e/\(i<=p.length->e<=p.length):=by
 induction h with
 |done=>grind
 |step h k hk r ih=>grind
abbrev Cw (p:List Nd):Hp:=[(0,some {cells:=[.frz (λk=>ndC (p.getD k dN)) 4 p.length],ty:=186,more:=true,ro:=true})]
theorem Bd (p:List Nd) (hp:p.length<=2048) (i e:Nat) (h:Ends p e 1 i):FQ 227 [.s (.ptr (some (0,0))),nI i] 1 (Cw p) (nI e) 1 (Cw p):=by
 refine wW Tryz.func227 ?_
 repeat'(first|refine yA ?_|refine y2 ?_ ?_|exact y5|fail)
 refine cD (σ:=Nat×Nat) (λx=>[(1,nI x.2),(5,nI x.1)]) (λx=>Cw p) (λx=>Ends p e x.1 x.2) (λx=>p.length-x.2+(if x.1=0 then 0 else 1)) (1,i) rfl (λ_=>rfl) h bc ⟨rfl,trivial⟩ ?_;rintro⟨n,j⟩ hE;simp only at hE |-
 cases hE with
 |done=>
  repeat'(first|refine y1 ?_|refine y2 ?_ ?_|refine y4 λh=>?_|exact bD|refine y3 ?_|exact y5|fail)
 | @step n1 _ hlt k hk r=>
   obtain⟨l1,l2⟩:=r.le;have l3:=l2 aa
   repeat'(first|refine yA ?_|refine y2 ?_ ?_|refine y4 λh=>?_|exact y5|fail)
   refine dT (n1+k,j+1) r ?_ rfl ⟨bp (congrArg nI ?_),bp (congrArg nI ?_),trivial⟩ ⟨rfl,trivial⟩ rfl rfl ac
   all_goals grind
inductive Chain (p:List Nd) (f:Nat):Nat->List Nat->Prop
 |nil:Chain p f f []
 |cons {j e:Nat} {l:List Nat} (h:Ends p e 1 j) (r:Chain p f e l):Chain p f j (j::l)
def gb (l:List Nat):S:=.frz (λk=>[.int .i64 ((l.getD k 0:Nat):Int)]) 1 l.length
abbrev sM (l:List Nat):List S:=l.map λ(j:Nat)=>S.int .i64 (j:Int)
def chS:List Nat->S
 |[]=> .slc (some (1,0)) 0 (some 8)
 |_::l=> .sla 1 2 (l.length+1)
def chB:List Nat->Bl
 |[]=>{cells:=List.replicate 8 (.int .i64 0),ty:=3,sym:=true,flat:=true}
 |j::l=>{cells:=sM (j::l),ty:=3,more:=true,sym:=true,flat:=true,gh:=some (2,1)}
theorem AF {l:List Nat} {k j:Nat} {x:S} (hk:k<l.length) (hx:[S.int .i64 ((l.getD k 0:Nat):Int)][j]? =some x):(sM l)[k*1+j]? =some x/\bL x=true:=by
 cases j with
 |succ j=>simp at hx
 |zero=>
  simp only[Z11,Z06] at hx;subst hx;rw[Z1p,Z0p,Z0t,Z01 hk,Z00,Z01 hk];exact⟨rfl,rfl⟩
theorem fh (p:List Nd) (hp:p.length<=2048) (i f:Nat) (hi:i<p.length) (cs:List Nat) (hk:(p.getD i dN).kids=(cs.length:Nat)) (hc:Chain p f (i+1) cs) (hl:cs.length<=2048):
 FQ 228 [.s (.ptr (some (0,0))),nI i] 1 (Cw p) (.s (gb cs)) 1 (Cw p):=by
 refine wW Tryz.func228 ?_
 repeat'(first|refine yA ?_|refine y2 ?_ ?_|exact y5|fail)
 refine kO [.idx 0,.idx 8] rfl rfl ⟨rfl,rfl,ac,?_,ac⟩ ?_
 ·rw[show (Tryz.prog.types[3]).bytes=8 by kernel_rfl];decide
 repeat'(first|refine yA ?_|refine y2 ?_ ?_|exact y5|fail)
 refine fN 7 .any (cT _) rfl (Ex.upN (n':=3) aa ?_);refine cD (σ:=List Nat×Nat×List Nat) (λx=>[(5,.s (chS x.1)),(6,nI x.2.1),(18,nI x.1.length)]) (λx=>(0,some {cells:=[.frz (λk=>ndC (p.getD k dN)) 4 p.length],ty:=186,more:=true,ro:=true})::(1,some (chB x.1))::[]) (λx=>x.1++x.2.2=cs/\Chain p f x.2.1 x.2.2) (λx=>x.2.2.length) ([],i+1,cs) rfl (λ_=>rfl) ⟨rfl,hc⟩ bc ⟨rfl,rfl,trivial⟩ ?_;rintro⟨done,j,rest⟩ ⟨h1,h2⟩;simp only at h1 h2 |-;rw[hk]
 cases h2 with
 |nil=>
  rw[Z0u] at h1;subst h1
  cases done with
  |nil=>
   repeat'(first|refine y1 ?_|refine y2 ?_ ?_|refine y4 λh=>?_|refine fN 4 (.s (gb [])) (VLe.s SLe.slcfrz) rfl ?_|exact bD|refine y3 ?_|exact y5|fail)
  |cons d l=>
   repeat'(first|refine y1 ?_|refine y2 ?_ ?_|refine y4 λh=>?_|refine Ex.fz 4 (λk=>[.int .i64 (((d::l).getD k 0:Nat):Int)]) 1 rfl rfl rfl rfl (λ_ _=>rfl) ?_ rfl rfl ?_|exact bD|refine y3 ?_|exact y5|fail)
   exact λk j x hk hx=>AF hk hx
 | @cons _ e rest he r=>
   have hlen:done.length+(rest.length+1)=cs.length:=ae;have hsz:(Tryz.prog.types[3]).size=1:=bd;have hby:(Tryz.prog.types[3]).bytes=8:=bd;have hend:=Bd p hp j e he
   cases done with
   |nil=>
    repeat'(first|refine y1 ?_|refine y2 ?_ ?_|refine y4 λh=>?_|refine Cl [.app 1 (sM [j])] rfl rfl ?_ rfl rfl rfl ?_|refine RegX.atCall (cm hend ?_)|refine y3 ?_|exact y5|fail)
    all_goals try (rw[hsz];exact Z02 _)
    refine fq ([j],e,rest) ⟨ae,r⟩ av [0,4,5] rfl ?_ ?_ rfl
    ·repeat'(first|exact ah _|exact cT _|exact Z0o|refine⟨?_,?_⟩)
    ·exact⟨rfl,rfl,trivial⟩
   |cons d l=>
    have hlen':l.length+1+(rest.length+1)=cs.length:=hlen
    repeat'(first|refine y1 ?_|refine y2 ?_ ?_|refine y4 λh=>?_|refine Cl [.app ((l++[j]).length+1) (sM (d::l++[j]))] rfl rfl ?_ rfl rfl rfl ?_|refine RegX.atCall (cm hend ?_)|refine y3 ?_|exact y5|fail)
    all_goals try first
     |(rw[hsz];exact Z02 _)
     |(simp only[Z03,Z04,Z0e];done)
     |(rw[hby];simp only[Z03,Z04,Z0e];omega)
     |(simp only[Z03,Z04,Z0e];omega)
     |(rw[hsz];show (l.length+1)*1<=(sM (d::l)).length;simp)
     |(rw[hsz];show sM (d::l++[j])=List.take ((l.length+1)*1) (sM (d::l))++_;rw[Z1l av,sM,Z0d];rfl)
    refine fq (d::l++[j],e,rest) ⟨ae,r⟩ av [0,4,5] rfl ?_ ?_ rfl
    ·repeat'(first|exact ah _|exact cT _|exact Z0o|exact bp (congrArg nI av)|refine⟨?_,?_⟩)
    ·exact⟨rfl,rfl,trivial⟩
theorem jW (p:List Nd) (hw:mG p) (i:Nat) (hi:i<p.length):
 FQ 178 [.s (.ptr (some (0,0))),nI i] 1 (Cw p) (jh (ak (p.getD i dN).str).1) 1 (Cw p):=by
 have hpp:=e9 (p.getD i dN).str (pJ hw i);refine wW Tryz.func178 ?_
 repeat'(first|refine y1 ?_|refine y2 ?_ ?_|refine an hpp ?_|exact bD|refine y3 ?_|exact y5|fail)
section
variable {p:List Nd} {i:Nat} {x:Nd}
inductive Fo where
 |nil
 |cons (x:Nd) (k n:Fo)
def Fo.flat:Fo->List Nd
 | .nil=>[]
 | .cons x k n=>x::(k.flat++n.flat)
def Fo.cnt:Fo->Nat
 | .nil=>0
 | .cons _ _ n=>n.cnt+1
def Fo.size:Fo->Nat
 | .nil=>0
 | .cons _ k n=>1+k.size+n.size
def Fo.dep:Fo->Nat
 | .nil=>0
 | .cons _ k n=>max (1+k.dep) n.dep
def Fo.At (p:List Nd):Fo->Nat->Prop
 | .nil,_=>True
 | .cons x k n,i=>p[i]? =some x/\x.kids=(k.cnt:Int)/\k.At p (i+1)/\n.At p (i+1+k.size)
def dj (ks:By):List (Bool×Int):=ks.map λc=>(dq (c.toNat:Int),(c.toNat:Int))
def Fo.V:Fo->List (Bool×Int)->Prop
 | .nil,[]=>True
 | .cons x k n,(true,c)::cs=>(x.op=4/\x.int=0/\x.str=[])/\k.V (List.replicate k.cnt (false,c))/\n.V cs
 | .cons x k n,(false,c)::cs=>(bn c x.op=true/\bM x c=true/\(aq x.op x.kids).2=true)/\k.V (dj (aq x.op x.kids).1)/\n.V cs
 |_,_=>False
theorem Fo.V_cnt:∀ {t:Fo} {cs:List (Bool×Int)},t.V cs->t.cnt=cs.length
 | .nil,[],_=>rfl
 | .nil,_::_,h=>h.elim
 | .cons x k n,[],h=>by simp[V] at h
 | .cons x k n,(true,c)::cs,h=>by simp only[cnt,Z04,V_cnt h.2.2]
 | .cons x k n,(false,c)::cs,h=>by simp only[cnt,Z04,V_cnt h.2.2]
theorem Fo.cnt_le:∀ t:Fo,t.cnt<=t.size
 | .nil=>Z02 _
 | .cons x k n=>by have:=cnt_le n;simp only[cnt,size];omega
def qZ (p:List Nd) (sl:Bool×Int) (f i e:Nat):Prop:=∃ x k,(Fo.cons x k .nil).At p i/\(Fo.cons x k .nil).V [sl]/\k.dep<f/\e=i+1+k.size
def ForestAt (p:List Nd) (cs:List (Bool×Int)) (f i e:Nat):Prop:=∃ t:Fo,t.At p i/\t.V cs/\t.dep<=f/\e=i+t.size
theorem ForestAt.cons {sl:Bool×Int} {cs:List (Bool×Int)} {f e e':Nat} (h:qZ p sl f i e) (r:ForestAt p cs f e e'):ForestAt p (sl::cs) f i e':=by
 obtain⟨x,k,h1,h2,h3,rfl⟩:=h;obtain⟨t,r1,r2,r3,rfl⟩:=r;refine⟨.cons x k t,⟨h1.1,h1.2.1,h1.2.2.1,r1⟩,?_,?_,?_⟩
 ·obtain⟨b,c⟩:=sl
  cases b
  ·exact⟨h2.1,h2.2.1,r2⟩
  ·exact⟨h2.1,h2.2.1,r2⟩
 all_goals grind [Fo.dep,Fo.size]
theorem ForestAt.nil (p:List Nd) (f i:Nat):ForestAt p [] f i i:=⟨.nil,trivial,trivial,Z08 _,rfl⟩
theorem ForestAt.block {p:List Nd} {sl:Bool×Int} {f:Nat} {rec:Nat->Option Nat} (hr:∀ i e,rec i=some e->qZ p sl f i e):∀ (k i e:Nat),cx rec k i=some e->ForestAt p (List.replicate k sl) f i e
 |0,i,e,h=>by grind [cx,ForestAt.nil]
 |k+1,i,e,h=>by
  simp only[cx] at h;split at h
  ·rename_i e1 h1
   exact ForestAt.cons (hr _ _ h1) (ForestAt.block hr k e1 e h)
  ·cases h
theorem ForestAt.kids {p:List Nd} {f:Nat} {ch:Int->Nat->Option Nat} (hch:∀ k i e,ch k i=some e->qZ p (dq k,k) f i e):∀ (ks:By) (i e:Nat),dO ch ks i=some e->ForestAt p (dj ks) f i e
 |[],i,e,h=>by simp only[dO,Z06] at h;subst h;exact ForestAt.nil ..
 |k::ks,i,e,h=>by
  simp only[dO] at h;split at h
  ·rename_i e1 h1
   exact ForestAt.cons (hch _ _ _ h1) (ForestAt.kids hch ks e1 e h)
  ·cases h
def TreeP (p:List Nd) (f:Nat) (E:Nat->Int->Option Nat):Prop:=∀ i k e,E i k=some e->qZ p (false,k) f i e
theorem TreeP.elemS {ok:Bool} {f:Nat} {E0 E1:Nat->Int->Option Nat} (h0:TreeP p f E0) (h1:ok=true->TreeP p (f-1) E1) (hf:ok=true->1<=f):TreeP p (f+1) (elemS p ok E0 E1):=by
 intro i k e h;unfold Go.Proofs.YtegjgpldfgjoiaaGreatDoor.elemS at h;split at h
 ·cases h
 ·rename_i x hx
  split at h
  ·rename_i hc
   have hk:=o_ _ _ hc.2.2
   obtain⟨t,t1,t2,t3,t4⟩:=ForestAt.kids (p:=p) (f:=f) (λk i e hch=>(by
    unfold de at hch;split at hch
    ·rename_i hb
     split at hch
     ·cases hch
     ·rename_i y hy
      split at hch
      ·rename_i hyb
       obtain⟨b1,b2,b3,b4,b5⟩:=hyb;obtain⟨t,t1,t2,t3,t4⟩:=ForestAt.block (λi e h=>h1 b1 i k e h) _ _ _ hch;have hcnt:=Fo.V_cnt t2;rw[Z36] at hcnt;rw[hb];refine⟨y,t,⟨hy,by rw[hcnt];omega,t1,trivial⟩,⟨⟨b2,b3,b4⟩,by rw[hcnt];exact t2,trivial⟩,?_,aa⟩;have:=hf b1;omega
      ·cases hch
    ·rename_i hb
     have hb:dq k=false:=by simpa using hb
     rw[hb]
     exact h0 i k e hch)) _ _ _ h
   have hcnt:=Fo.V_cnt t2;rw[dj,Z0z] at hcnt;exact⟨x,t,⟨hx,ae,t1,trivial⟩,⟨hc,t2,trivial⟩,aa,aa⟩
  ·cases h
theorem TreeP.elemF {p:List Nd}:∀ f,TreeP p f (Go.Proofs.YtegjgpldfgjoiaaGreatDoor.elemF p f)/\TreeP p (f+1) (Go.Proofs.YtegjgpldfgjoiaaGreatDoor.elemF p (f+1))
 |0=>by
  refine⟨λi k e h=>(by cases h),?_⟩;rw[d9];exact TreeP.elemS (λi k e h=>by cases h) (λh=>by grind) (λh=>by grind)
 |f+1=>by
  have ih:=TreeP.elemF (p:=p) f
  grind [d9,TreeP.elemS]
theorem mL {p:List Nd}:∀ (n i:Nat),i<=p.length->oD p n i=true->∃ t:Fo,t.At p i/\t.V (List.replicate t.cnt (false,68))/\t.dep<=32/\p.length=i+t.size
 |0,i,_,h=>by cases h
 |n+1,i,hi,h=>by
  simp only[oD] at h;split at h
  ·rename_i hlt
   split at h
   ·rename_i e he
    obtain⟨x,k,h1,h2,h3,h4⟩:=(TreeP.elemF (p:=p) 32).1 i 68 e he;obtain⟨t,t1,t2,t3,t4⟩:=mL n e (cN he).2 h;subst h4;refine⟨.cons x k t,⟨h1.1,h1.2.1,h1.2.2.1,t1⟩,⟨h2.1,h2.2.1,t2⟩,?_,?_⟩
    all_goals grind [Fo.dep,Fo.size]
   ·cases h
  ·rename_i hge
   exact⟨.nil,trivial,trivial,Z08 _,by simp only[Fo.size];omega⟩
theorem jG (h:dX p=true):p.length<=2048/\∃ t:Fo,t.At p 0/\t.V (List.replicate t.cnt (false,68))/\t.dep<=32/\t.size=p.length:=by
 unfold dX at h;simp only[Z07,decide_eq_true_eq] at h;obtain⟨t,t1,t2,t3,t4⟩:=mL _ 0 (Z08 _) h.2
 grind
theorem At.lt {k n:Fo} (h:(Fo.cons x k n).At p i):i<p.length:=by
 rcases Z0a i p.length with q|q
 ·exact q
 ·have:=h.1;rw[Z0b q] at this;cases this
theorem At.get {k n:Fo} (h:(Fo.cons x k n).At p i):p.getD i dN=x:=by
 rw[Z00,h.1];rfl
theorem At.ends {p:List Nd}:∀ {t:Fo} {i m e:Nat},t.At p i->Ends p e m (i+t.size)->Ends p e (m+t.cnt) i
 | .nil,i,m,e,_,r=>r
 | .cons x k n,i,m,e,h,r=>by
   have hk:(p.getD i dN).kids=(k.cnt:Nat):=by rw[At.get h];exact h.2.1
   have r1:Ends p e (m+n.cnt) (i+1+k.size):=At.ends h.2.2.2 (by grind [Fo.size]);have r2:Ends p e (m+n.cnt+k.cnt) (i+1):=At.ends h.2.2.1 r1;exact Ends.step (At.lt h) k.cnt hk r2
theorem At.ends1 {k n:Fo} (h:(Fo.cons x k n).At p i):Ends p (i+1+k.size) 1 i:=by
 have h1:(Fo.cons x k .nil).At p i:=⟨h.1,h.2.1,h.2.2.1,trivial⟩
 have:=At.ends (m:=0) (e:=i+1+k.size) h1 (by simp only[Fo.size];rw[show i+(1+k.size+0)=i+1+k.size by omega];exact Ends.done)
 simpa [Fo.cnt] using this
def Fo.starts:Fo->Nat->List Nat
 | .nil,_=>[]
 | .cons _ k n,i=>i::n.starts (i+1+k.size)
theorem bH:∀ (t:Fo) (i:Nat),(t.starts i).length=t.cnt
 | .nil,_=>rfl
 | .cons x k n,i=>by simp only[Fo.starts,Z04,bH n,Fo.cnt]
theorem At.chain {p:List Nd}:∀ {t:Fo} {i:Nat},t.At p i->Chain p (i+t.size) i (t.starts i)
 | .nil,i,_=>Chain.nil
 | .cons x k n,i,h=>by
   refine Chain.cons (At.ends1 h) ?_;have:=At.chain h.2.2.2
   grind [Fo.size]
theorem At.size_le {p:List Nd}:∀ {t:Fo} {i:Nat},i<=p.length->t.At p i->i+t.size<=p.length
 | .nil,i,hi,_=>hi
 | .cons x k n,i,hi,h=>by
   have h1:=At.lt h;have h2:=At.size_le h1 h.2.2.1;have:=At.size_le h2 h.2.2.2;simp only[Fo.size];omega
end
theorem CQ (l:List By) (sep:By) (hN:l.length<=140737488355328) (hlen:(Lib.join l sep).length<=140737488355328):FQ 98 [.s (aR l),sV sep] 0 [] (sV (Lib.join l sep)) 0 []:=by
 refine FC.below bd λφ xs w hx hg=>?_
 match xs,hx with
 |[a,b],⟨h1,h2,_⟩=>
  have h2:b=.string ⟨sep.toArray⟩:=h2;subst h2;have h1:Pr φ.z (aR l) a:=h1;unfold aR at h1;generalize hn:l.length=n at h1
  cases h1 with
  |nil _ _ ad k hk=>
   have hl:l=[]:=Z4u.1 hn;subst hl;refine (Tryz.strings_Join_none ad k ⟨sep.toArray⟩ w).mono ?_;rintro e w' ⟨rfl,rfl⟩;exact⟨_,rfl,λ_ _=>rfl,Go.RowKit.Below.refl _ _⟩
  |frz _ _ _ bk o k vs hz hle val hl hv hpx=>
   obtain⟨⟨ty,fr,hb⟩,_⟩:=hg.fz bk vs hz
   have hcell:∀ (j:Nat) x,(l.map λs=>(⟨s.toArray⟩:ByteArray))[j]? =some x->w.cell? ⟨bk,o+j,none⟩=some (.string x):=by
    intro j x hj;rw[Z0t] at hj
    have hjl:j<l.length:=by
     grind
    rw[Z01 hjl] at hj;simp only[Z1j,Z06] at hj;have e0:([S.str (l.getD j [])]:List S)[0]? =some (.str (l.getD j [])):=rfl;have h3:=hv j 0 _ aa e0;have h4:=hpx j 0 _ aa e0
    have h5:val j 0=.string ⟨(l.getD j []).toArray⟩:=by
     generalize val j 0=y at h4;cases h4;rfl
    rw[Z1p,Z0p,h5] at h3;simp only[World.cell?,hb,Z2b,Z0l,if_false,Z1a]
    grind
   have hmap:(l.map λs=>(⟨s.toArray⟩:ByteArray)).map (·.data.toList)=l:=by rw[List.map_map];simp[Function.comp_def]
   have:=Tryz.strings_Join bk o k (l.map λs=>(⟨s.toArray⟩:ByteArray)) ⟨sep.toArray⟩ w hcell (hg.fzlt hz) ae ae ae;rw[hmap,Z0z,hn] at this;refine this.mono ?_;rintro e w' ⟨rfl,hbl⟩;exact⟨_,rfl,λ_ _=>rfl,hbl⟩
theorem xr (s:By):FQ 97 [sV s,nI 0] 0 [] (sV []) 0 []:=by
 refine wW Tryz.func97 ?_
 repeat'(first|refine y1 ?_|refine y2 ?_ ?_|refine y4 λh=>?_|refine Fin.str (.inl rfl) rfl rfl|refine y3 ?_|exact y5|fail)
def aH (p:Pth):By:=if aA p then (if p.root then [92] else List.replicate p.up.toNat 94)++Lib.join p.segs [46] else []
theorem dG {s:By} (h:aN s=true):1<=s.length/\s.length<=4:=by
 grind [aN]
theorem mh:∀ {l:List By},l.all aN=true->(Lib.join l [46]).length<=5*l.length
 |[],_=>by simp[Lib.join]
 |[x],h=>by
  simp only[Z1b,Z2u,Z3m] at h;have:=dG h;simp[Lib.join];omega
 |x::y::l,h=>by
  have h1:aN x=true/\(y::l).all aN=true:=ae;have:=dG h1.1;have ih:=mh h1.2
  have e:Lib.join (x::y::l) [46]=x++46::Lib.join (y::l) [46]:=by simp[Lib.join,List.intercalate]
  grind
theorem HU (up:Int) (segs:List By):FQ 50 [.agg [.bool true,.int .i64 up,aR segs]] 0 [] (sV (aH ⟨true,up,segs⟩)) 0 []:=by
 have hv:=eg true up segs;refine wW Tryz.func50 ?_
 cases h1:aA ⟨true,up,segs⟩<;>rw[h1] at hv
 ·
  repeat'(first|refine y1 ?_|refine y2 ?_ ?_|refine bt hv ?_|refine Fin.str (.inl rfl) rfl ?_|refine y3 ?_|exact y5|fail)
  unfold aH;rw[h1];rfl
 ·
  obtain⟨v1,v2,v3,v4,v5,v6⟩:=aG h1;simp only at v1 v2 v3 v4 v5 v6;have hu:=v4 trivial;subst hu;have hjl:=mh v5;have hj:=CQ segs [46] aa aa;have hr:=xr [94]
  repeat'(first|refine y1 ?_|refine y2 ?_ ?_|refine bt hv ?_|refine an hr ?_|refine an hj ?_|refine Fin.str (.inl rfl) rfl ?_|refine y3 ?_|exact y5|fail)
  all_goals grind [aH]
theorem ny (p:Pth) (h:p.root=true):FQ 50 [jh p] 0 [] (sV (aH p)) 0 []:=by
 obtain⟨r,u,s⟩:=p;simp only at h;subst h;exact HU u s
section
variable {s c:By} {p:Pth} {root:Bool} {u:Nat} {l:List By}
theorem kU {c:UInt8}:∀ {r:By},(∀ j,j<r.length->r.getD j 0≠c)->aF c r=[r]
 |[],_=>rfl
 |b::l,h=>by
  have hb: ¬b=c:=by simpa using h 0 av
  have ih:=kU (c:=c) (r:=l) λj hj=>by simpa using h (j+1) (by simpa using hj)
  simp only[aF,if_neg hb,ih]
theorem oY {c:UInt8}:∀ {r:By} {m:Nat},m<r.length->(∀ j,j<m->r.getD j 0≠c)->r.getD m 0=c->aF c r=r.take m::aF c (r.drop (m+1))
 |[],m,h,_,_=>by grind
 |b::l,0,_,_,h=>by
  grind [aF]
 |b::l,m+1,hm,h,hc=>by
  have hb: ¬b=c:=by simpa using h 0 av
  have ih:=oY (c:=c) (r:=l) (m:=m) ae (λj hj=>by grind) ae;simp only[aF,if_neg hb,ih,List.take_succ_cons,Z59]
theorem ry {c:UInt8} (s:By):aF c s≠[]:=λh=>by
 grind [gx]
theorem ga {a:By} (h:l≠[]):Lib.join (a::l) c=a++c++Lib.join l c:=by
 cases l with
 |nil=>grind
 |cons b t=>simp[Lib.join,List.intercalate]
theorem f_ {a:By}:Lib.join [a] c=a:=by simp[Lib.join,List.intercalate]
theorem sH:Lib.join [] c=[]:=by simp[Lib.join,List.intercalate]
theorem jq (c:UInt8):∀ s:By,Lib.join (aF c s) [c]=s
 |[]=>f_
 |b::l=>by
  have ih:=jq c l;by_cases hb:b=c
  ·subst hb
   simp only[aF,if_true];rw[ga (ry l),ih];rfl
  ·simp only[aF,if_neg hb]
   cases e:aF c l with
   |nil=>exact absurd e (ry l)
   |cons h t=>
    rw[e] at ih;simp only
    cases t with
    |nil=>rw[f_] at ih |-;rw[ih]
    |cons h' t'=>
     grind [ga]
theorem ld {c:By}:∀ {l:List By} {a:By},Lib.join (l++[a]) c=if l=[] then a else Lib.join l c++c++a
 |[],a=>f_
 |b::l,a=>by
  rw[if_neg av]
  cases l with
  |nil=>
   grind [ga,f_]
  |cons d t=>
   rw[Z25,ga av,ld,if_neg av,ga (a:=b) av]
   grind
theorem DE (h:l.all aN=false):eJ ⟨root,u,l⟩=(z0,false):=by
 grind [eJ,aA]
theorem xX (h:32<l.length):eJ ⟨root,u,l⟩=(z0,false):=by
 grind [eJ,aA]
theorem jI (root:Bool) (u:Nat) (rest:By):dV root u rest=if rest=[] then eJ ⟨root,u,[]⟩ else if (aF 46 rest).all aN then eJ ⟨root,u,aF 46 rest⟩ else (z0,false):=by
 unfold dV
 by_cases h:rest=[]
 ·grind
 ·rw[if_neg h,if_neg h]
  by_cases hc:32<=rest.count 46
  ·rw[if_pos hc]
   rw[xX (by rw[gx];omega)]
   split<;>rfl
  all_goals grind [DE]
theorem pK:∀ s:By,s=List.replicate (cj s).1 94++(cj s).2
 |[]=>rfl
 |b::l=>by
  unfold cj;split
  ·rename_i h;subst h
   have:=pK l
   grind
  ·rfl
theorem wu {q:Pth} (h:eJ p=(q,true)):q=p/\aA p=true:=by
 grind [eJ]
theorem jH {rest:By} (h:dV root u rest=(p,true)):p=⟨root,u,if rest=[] then [] else aF 46 rest⟩/\aA p=true:=by
 rw[jI] at h;split at h
 ·rename_i hr
  obtain⟨rfl,hv⟩:=wu h
  grind
 ·rename_i hr
  split at h
  ·obtain⟨rfl,hv⟩:=wu h
   grind
  ·cases h
theorem rm {rest:By} (h:dV root u rest=(p,true)) (hu:root=true->u=0):aH p=(if root then [92] else List.replicate u 94)++rest:=by
 obtain⟨rfl,hv⟩:=jH h
 grind [sH,jq,aH]
theorem EZ (s:By):(cI s [92]=(s.drop 1,true)/\s=92::s.drop 1)\/(cI s [92]=(s,false)/\s.head? ≠some 92):=by
 unfold cI
 cases s with
 |nil=>exact .inr ⟨by simp[dr],av⟩
 |cons b l=>
  grind [dr]
theorem pf (h:ak s=(p,true)):aH p=s:=by
 unfold ak at h
 rcases EZ s with ⟨e1,e2⟩|⟨e1,e2⟩
 ·rw[e1] at h
  simp only[if_true] at h;rw[rm h (λ_=>rfl)];exact e2.symm
 all_goals grind [rm,pK]
theorem im (h:ak s=(p,true)):aA p=true:=by
 unfold ak at h;split at h
 ·exact (jH h).2
 ·exact (jH h).2
theorem rG (h:aN s=true) {c:UInt8} (hc:c∈s):(65<=c.toNat/\c.toNat<=90)\/c.toNat=95\/(48<=c.toNat/\c.toNat<=57):=by
 unfold aN at h;simp only[Z07,decide_eq_true_eq,Z0i,Z29] at h;obtain⟨i,hi,rfl⟩:=Z2r.1 hc
 grind [lM,uf]
theorem xm (h:aN s=true):aF 46 s=[s]:=by
 refine kU λj hj e=>?_
 rw[Z00,Z01 hj] at e;have:=rG h (Z0s hj);simp only[Z22] at e;rw[e] at this
 grind
theorem xw (h:aN s=true):ak s=(⟨false,0,[s]⟩,true):=by
 have hl:=dG h
 cases s with
 |nil=>simp at hl
 |cons b l=>
  have hb:=rG h (Z17 ..)
  have h92: ¬b=92:=λe=>by subst e;revert hb;decide
  have h94: ¬b=94:=λe=>by subst e;revert hb;decide
  have e1:cI (b::l) [92]=(b::l,false):=by simp[cI,dr,h92]
  unfold ak;rw[e1];simp only[Z0l,if_false]
  have e2:cj (b::l)=(0,b::l):=by simp[cj,h94]
  rw[e2];simp only;rw[jI,if_neg av,xm h]
  grind [eJ,aA]
theorem CR (h:ak s=(p,true)):ud p=aN s:=by
 have hf:=pf h;have hv:=im h;obtain⟨root,up,segs⟩:=p
 cases hs:aN s with
 |true=>
  rw[xw hs] at h;cases h;rfl
 |false=>
  rw[Bool.eq_false_iff];intro hp;unfold ud at hp;simp only[Z07,Z0v,decide_eq_true_eq] at hp;obtain⟨⟨rfl,rfl⟩,hl⟩:=hp;obtain⟨a,rfl⟩:∃ a,segs=[a]:=Z5o.1 aa;have hall:=(aG hv).2.2.2.2.1
  grind [f_,aH]
end
section
variable {l:List By}
theorem xh {j:Nat} (h:j<l.length):l.take (j+1)=l.take j++[l.getD j []]:=by
 rw[Z49,Z01 h,Z00,Z01 h];rfl
theorem qn (h:l.all aN=true) (j:Nat):(Lib.join (l.take j) [46]).length<=5*l.length:=by
 have h2:(l.take j).all aN=true:=by
  rw[Z0i] at h |-
  exact λx hx=>h x (Z2x hx)
 have:=mh h2;rw[Z19] at this;omega
theorem kW (h:l.all aN=true) {j:Nat} (hj:j<l.length):(l.getD j []).length<=4:=by
 rw[Z0i] at h;rw[Z00,Z01 hj];exact (dG (h _ (Z0s hj))).2
theorem Ge (root:Bool) (up:Int) (segs:List By) (hs:∀ i,i<segs.length->(segs.getD i []).length<9223372036854775807):FQ 54 [.agg [.bool root,.int .i64 up,aR segs]] 0 [] (sV (aH ⟨root,up,segs⟩)) 0 []:=by
 have hv:=eV root up segs hs;refine wW Tryz.func54 ?_
 cases h1:aA ⟨root,up,segs⟩<;>rw[h1] at hv
 ·
  repeat'(first|refine y1 ?_|refine y2 ?_ ?_|refine bt hv ?_|refine Fin.str (.inl rfl) rfl ?_|refine y3 ?_|exact y5|fail)
  unfold aH;rw[h1];rfl
 ·
  obtain⟨v1,v2,v3,v4,v5,v6⟩:=aG h1;simp only at v1 v2 v3 v4 v5 v6;obtain⟨u,rfl⟩:=Z2a v1
  have hpre:aH ⟨root,u,segs⟩=((if root then [92] else [])++List.replicate u 94)++Lib.join segs [46]:=by
   unfold aH;rw[if_pos h1];simp only;cases root
   ·simp
   ·have:=v4 rfl
    have hu:u=0:=aa;subst hu;simp
  rw[hpre];clear hpre
  obtain⟨pre,hpre⟩:∃ pre:By,pre=(if root then [92] else []):=⟨_,rfl⟩
  rw[<-hpre]
  have hpl:pre.length<=1:=by rw[hpre];cases root<;>simp
  cases root
  all_goals
   repeat'(first|refine yA ?_|refine y2 ?_ ?_|refine bt hv ?_|exact y5|fail)
   refine cD (σ:=Nat) (λj=>[(4,nI j),(3,sV (pre++List.replicate j 94))]) (λ_=>[(0,some {cells:=[.bool _,.int .i64 (u:Int),aR segs],ty:=99})]) (λj=>j<=u) (λj=>u-j) 0 rfl (λ_=>rfl) (Z08 _) ⟨ah _,bp (congrArg sV (by rw[hpre];rfl)),trivial⟩ ⟨rfl,trivial⟩ ?_;intro j hj;by_cases hlt:j<u
   ·
    repeat'(first|refine yA ?_|refine y2 ?_ ?_|refine y4 λh=>?_|exact y5|fail)
    all_goals try (simp only[Z03,Z36,Z04,Z0e];omega)
    refine dT (j+1) aa aa rfl ⟨ah _,bp (congrArg sV ?_),trivial⟩ ⟨rfl,trivial⟩ rfl rfl ac;rw[List.replicate_succ',<-Z14]
   ·
    obtain rfl:j=u:=aa
    repeat'(first|refine yA ?_|refine y2 ?_ ?_|refine y4 λh=>?_|exact y5|fail)
    refine cD (σ:=Nat) (λi=>[(5,nI i),(3,sV ((pre++List.replicate j 94)++Lib.join (segs.take i) [46]))]) (λ_=>[(0,some {cells:=[.bool _,.int .i64 (j:Int),aR segs],ty:=99})]) (λi=>i<=segs.length) (λi=>segs.length-i) 0 rfl (λ_=>rfl) (Z08 _) ⟨ah _,bp (congrArg sV (Z0u _).symm),trivial⟩ ⟨rfl,trivial⟩ ?_;intro i hi;have hjl:=qn v5 i;by_cases hlt2:i<segs.length
    ·
     have hsg:=kW v5 hlt2;have htk:=ld (c:=[46]) (l:=segs.take i) (a:=segs.getD i []);rw[<-xh hlt2] at htk;by_cases h0:i=0
     ·subst h0
      repeat'(first|refine yA ?_|refine y2 ?_ ?_|refine y4 λh=>?_|exact y5|fail)
      all_goals try (simp only[Z03,Z36,Z04,Z0e];omega)
      refine dT 1 aa aa rfl ⟨ah _,bp (congrArg sV ?_),trivial⟩ ⟨rfl,trivial⟩ rfl rfl ac;rw[show segs.take 1=segs.take (0+1) from rfl,htk,if_pos av,List.take_zero,sH,Z0u]
     ·
      have hne:segs.take i≠[]:=by
       intro e;have:=congrArg List.length e;rw[Z19,Z0e] at this;omega
      rw[if_neg hne] at htk
      repeat'(first|refine yA ?_|refine y2 ?_ ?_|refine y4 λh=>?_|exact y5|fail)
      all_goals try (simp only[Z03,Z36,Z04,Z0e];omega)
      refine dT (i+1) aa aa rfl ⟨ah _,bp (congrArg sV ?_),trivial⟩ ⟨rfl,trivial⟩ rfl rfl ac;rw[htk];simp only[Z14]
    ·
     obtain rfl:i=segs.length:=aa
     repeat'(first|refine y1 ?_|refine y2 ?_ ?_|refine y4 λh=>?_|refine Fin.str (.inl rfl) rfl ?_|refine y3 ?_|exact y5|fail)
     all_goals (rw[Z1v])
theorem uR (p:Pth) (hs:∀ i,i<p.segs.length->(p.segs.getD i []).length<9223372036854775807):FQ 54 [jh p] 0 [] (sV (aH p)) 0 []:=Ge p.root p.up p.segs hs
end
