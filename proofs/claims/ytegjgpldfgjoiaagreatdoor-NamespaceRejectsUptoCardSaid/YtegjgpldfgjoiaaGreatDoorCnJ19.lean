import Derived.Test.YtegjgpldfgjoiaaGreatDoorCnJ15
import Derived.Test.YtegjgpldfgjoiaaGreatDoorCnJ17
set_option linter.all false
set_option maxHeartbeats 40000000
set_option maxRecDepth 100000
namespace Go.Proofs.YtegjgpldfgjoiaaGreatDoor
open Go Ab
inductive Ends (p:List Nd) (e:Nat):Nat->Nat->Prop
 |done:Ends p e 0 e
 |step {n i:Nat} (h:i<p.length) (k:Nat) (hk:(p.getD i dN).kids=k) (r:Ends p e (n+k) (i+1)):Ends p e (n+1) i
theorem rO (op kids:Int) (h:(av op kids).2=true):((av op kids).1.length:Int)=kids:=by
 unfold av at*;split at h
 ·split at h
  ·cases h
  ·rename_i h5 h7
   simp only[if_pos h5,if_neg h7,Z19];show ((min kids.toNat 7:Nat):Int)=kids;omega
 ·split at h
  ·split at h
   ·cases h
   ·rename_i h5 h33 h7
    simp only[if_neg h5,if_pos h33,if_neg h7,Z19];show ((min kids.toNat 7:Nat):Int)=kids;omega
  all_goals grind
theorem Ends.kids {p:List Nd} {ch:Int->Nat->Option Nat} (hch:∀ k i e,ch k i=some e->∀ n e',Ends p e' n e->Ends p e' (n+1) i):∀ (ks:By) (i e:Nat),eJ ch ks i=some e->∀ n e',Ends p e' n e->Ends p e' (n+ks.length) i
 |[],i,e,h,n,e',r=>by grind [eJ]
 |k::ks,i,e,h,n,e',r=>by
  simp only[eJ] at h;split at h
  ·rename_i e1 h1
   exact hch _ _ _ h1 _ _ (Ends.kids hch ks e1 e h n e' r)
  ·cases h
theorem Ends.block {p:List Nd} {rec:Nat->Option Nat} (hr:∀ i e,rec i=some e->∀ n e',Ends p e' n e->Ends p e' (n+1) i):∀ (k i e:Nat),cR rec k i=some e->∀ n e',Ends p e' n e->Ends p e' (n+k) i
 |0,i,e,h,n,e',r=>by grind [cR]
 |k+1,i,e,h,n,e',r=>by
  simp only[cR] at h;split at h
  ·rename_i e1 h1
   exact hr _ _ h1 _ _ (Ends.block hr k e1 e h n e' r)
  ·cases h
def xA (p:List Nd) (E:Nat->Int->Option Nat):Prop:=∀ i k e,E i k=some e->∀ n e',Ends p e' n e->Ends p e' (n+1) i
theorem Ends.elemS {p:List Nd} {ok:Bool} {E0 E1:Nat->Int->Option Nat} (h0:xA p E0) (h1:xA p E1):xA p (elemS p ok E0 E1):=by
 intro i k e h n e' r;unfold Go.Proofs.YtegjgpldfgjoiaaGreatDoor.elemS at h;split at h
 ·cases h
 ·rename_i x hx
  split at h
  ·rename_i hc
   have hi:i<p.length:=by
    grind
   have hxe:p.getD i dN=x:=ae;refine Ends.step hi (av x.op x.kids).1.length (by grind [rO]) ?_;refine Ends.kids (λk i e hch n e' r=>?_) _ _ _ h n e' r;unfold dL at hch;split at hch
   ·split at hch
    ·cases hch
    ·rename_i y hy
     split at hch
     ·rename_i hb
      have hi2:i<p.length:=by
       grind
      have hye:p.getD i dN=y:=ae;refine Ends.step hi2 y.kids.toNat ae ?_;exact Ends.block (λi e h=>h1 i k e h) _ _ _ hch n e' r
     ·cases hch
   ·exact h0 i k e hch n e' r
  ·cases h
theorem Ends.elemF {p:List Nd}:∀ f,xA p (elemF p f)/\xA p (Go.Proofs.YtegjgpldfgjoiaaGreatDoor.elemF p (f+1))
 |0=>by
  refine⟨λi k e h=>(by cases h),?_⟩;rw[e9];exact Ends.elemS (λi k e h=>by cases h) (λi k e h=>by cases h)
 |f+1=>by
  have ih:=Ends.elemF (p:=p) f
  grind [e9,Ends.elemS]
theorem Ends.le {p:List Nd} {e n i:Nat} (h:Ends p e n i):i+n<=e/\(i<=p.length->e<=p.length):=by
 induction h with
 |done=>grind
 |step h k hk r ih=>grind
abbrev GB (p:List Nd):Hp:=[(0,some {cells:=[.frz (λk=>ndC (p.getD k dN)) 4 p.length],ty:=186,more:=true,ro:=true})]
theorem E7 (p:List Nd) (hp:p.length<=2048) (i e:Nat) (h:Ends p e 1 i):FQ 227 [.s (.ptr (some (0,0))),nI i] 1 (GB p) (nI e) 1 (GB p):=by
 refine wW Tryz.func227 ?_
 repeat'(first|refine yA ?_|refine y2 ?_ ?_|exact y5|fail)
 refine cy (σ:=Nat×Nat) (λx=>[(1,nI x.2),(5,nI x.1)]) (λx=>GB p) (λx=>Ends p e x.1 x.2) (λx=>p.length-x.2+(if x.1=0 then 0 else 1)) (1,i) rfl (λ_=>rfl) h aP ⟨rfl,trivial⟩ ?_;rintro⟨n,j⟩ hE;simp only at hE |-
 cases hE with
 |done=>
  repeat'(first|refine y1 ?_|refine y2 ?_ ?_|refine y4 λh=>?_|exact bK|refine y3 ?_|exact y5|fail)
 | @step n1 _ hlt k hk r=>
   obtain⟨l1,l2⟩:=r.le;have l3:=l2 aa
   repeat'(first|refine yA ?_|refine y2 ?_ ?_|refine y4 λh=>?_|exact y5|fail)
   refine dz (n1+k,j+1) r ?_ rfl ⟨bB (congrArg nI ?_),bB (congrArg nI ?_),trivial⟩ ⟨rfl,trivial⟩ rfl rfl ac
   all_goals grind
inductive Chain (p:List Nd) (f:Nat):Nat->List Nat->Prop
 |nil:Chain p f f []
 |cons {j e:Nat} {l:List Nat} (h:Ends p e 1 j) (r:Chain p f e l):Chain p f j (j::l)
def eQ (l:List Nat):S:=.frz (λk=>[.int .i64 ((l.getD k 0:Nat):Int)]) 1 l.length
abbrev wt (l:List Nat):List S:=l.map λ(j:Nat)=>S.int .i64 (j:Int)
def chS:List Nat->S
 |[]=> .slc (some (1,0)) 0 (some 8)
 |_::l=> .sla 1 2 (l.length+1)
def chB:List Nat->Bl
 |[]=>{cells:=List.replicate 8 (.int .i64 0),ty:=3,sym:=true,flat:=true}
 |j::l=>{cells:=wt (j::l),ty:=3,more:=true,sym:=true,flat:=true,gh:=some (2,1)}
theorem ED {l:List Nat} {k j:Nat} {x:S} (hk:k<l.length) (hx:[S.int .i64 ((l.getD k 0:Nat):Int)][j]? =some x):(wt l)[k*1+j]? =some x/\bL x=true:=by
 cases j with
 |succ j=>simp at hx
 |zero=>
  simp only[Z11,Z06] at hx;subst hx;rw[Z1p,Z0p,Z0t,Z01 hk,Z00,Z01 hk];exact⟨rfl,rfl⟩
theorem gx (p:List Nd) (hp:p.length<=2048) (i f:Nat) (hi:i<p.length) (cs:List Nat) (hk:(p.getD i dN).kids=(cs.length:Nat)) (hc:Chain p f (i+1) cs) (hl:cs.length<=2048):
 FQ 228 [.s (.ptr (some (0,0))),nI i] 1 (GB p) (.s (eQ cs)) 1 (GB p):=by
 refine wW Tryz.func228 ?_
 repeat'(first|refine yA ?_|refine y2 ?_ ?_|exact y5|fail)
 refine mo [.idx 0,.idx 8] rfl rfl ⟨rfl,rfl,ac,?_,ac⟩ ?_
 ·rw[show (Tryz.prog.types[3]).bytes=8 by kernel_rfl];decide
 repeat'(first|refine yA ?_|refine y2 ?_ ?_|exact y5|fail)
 refine gH 7 .any (dd _) rfl (Ex.upN (n':=3) aa ?_);refine cy (σ:=List Nat×Nat×List Nat) (λx=>[(5,.s (chS x.1)),(6,nI x.2.1),(18,nI x.1.length)]) (λx=>(0,some {cells:=[.frz (λk=>ndC (p.getD k dN)) 4 p.length],ty:=186,more:=true,ro:=true})::(1,some (chB x.1))::[]) (λx=>x.1++x.2.2=cs/\Chain p f x.2.1 x.2.2) (λx=>x.2.2.length) ([],i+1,cs) rfl (λ_=>rfl) ⟨rfl,hc⟩ aP ⟨rfl,rfl,trivial⟩ ?_;rintro⟨done,j,rest⟩ ⟨h1,h2⟩;simp only at h1 h2 |-;rw[hk]
 cases h2 with
 |nil=>
  rw[Z0u] at h1;subst h1
  cases done with
  |nil=>
   repeat'(first|refine y1 ?_|refine y2 ?_ ?_|refine y4 λh=>?_|refine gH 4 (.s (eQ [])) (VLe.s SLe.slcfrz) rfl ?_|exact bK|refine y3 ?_|exact y5|fail)
  |cons d l=>
   repeat'(first|refine y1 ?_|refine y2 ?_ ?_|refine y4 λh=>?_|refine Ex.fz 4 (λk=>[.int .i64 (((d::l).getD k 0:Nat):Int)]) 1 rfl rfl rfl rfl (λ_ _=>rfl) ?_ rfl rfl ?_|exact bK|refine y3 ?_|exact y5|fail)
   exact λk j x hk hx=>ED hk hx
 | @cons _ e rest he r=>
   have hlen:done.length+(rest.length+1)=cs.length:=ae;have hsz:(Tryz.prog.types[3]).size=1:=aK;have hby:(Tryz.prog.types[3]).bytes=8:=aK;have hend:=E7 p hp j e he
   cases done with
   |nil=>
    repeat'(first|refine y1 ?_|refine y2 ?_ ?_|refine y4 λh=>?_|refine Bn [.app 1 (wt [j])] rfl rfl ?_ rfl rfl rfl ?_|refine RegX.atCall (cm hend ?_)|refine y3 ?_|exact y5|fail)
    all_goals try (rw[hsz];exact Z02 _)
    refine fX ([j],e,rest) ⟨ae,r⟩ aq [0,4,5] rfl ?_ ?_ rfl
    ·repeat'(first|exact ah _|exact dd _|exact Z0o|refine⟨?_,?_⟩)
    ·exact⟨rfl,rfl,trivial⟩
   |cons d l=>
    have hlen':l.length+1+(rest.length+1)=cs.length:=hlen
    repeat'(first|refine y1 ?_|refine y2 ?_ ?_|refine y4 λh=>?_|refine Bn [.app ((l++[j]).length+1) (wt (d::l++[j]))] rfl rfl ?_ rfl rfl rfl ?_|refine RegX.atCall (cm hend ?_)|refine y3 ?_|exact y5|fail)
    all_goals try first
     |(rw[hsz];exact Z02 _)
     |(simp only[Z03,Z04,Z0e];done)
     |(rw[hby];simp only[Z03,Z04,Z0e];omega)
     |(simp only[Z03,Z04,Z0e];omega)
     |(rw[hsz];show (l.length+1)*1<=(wt (d::l)).length;simp)
     |(rw[hsz];show wt (d::l++[j])=List.take ((l.length+1)*1) (wt (d::l))++_;rw[Z1l aq,wt,Z0d];rfl)
    refine fX (d::l++[j],e,rest) ⟨ae,r⟩ aq [0,4,5] rfl ?_ ?_ rfl
    ·repeat'(first|exact ah _|exact dd _|exact Z0o|exact bB (congrArg nI aq)|refine⟨?_,?_⟩)
    ·exact⟨rfl,rfl,trivial⟩
theorem lH (p:List Nd) (hw:oh p) (i:Nat) (hi:i<p.length):
 FQ 178 [.s (.ptr (some (0,0))),nI i] 1 (GB p) (hY (ai (p.getD i dN).str).1) 1 (GB p):=by
 have hpp:=gq (p.getD i dN).str (sG hw i);refine wW Tryz.func178 ?_
 repeat'(first|refine y1 ?_|refine y2 ?_ ?_|refine an hpp ?_|exact bK|refine y3 ?_|exact y5|fail)
section
variable {p:List Nd} {i:Nat} {x:Nd}
inductive Fo where
 |nil
 |cons (x:Nd) (k n:Fo)
def Fo.flat:Fo->List Nd
 | .nil=>[]
 | .cons x k n=>x::(k.flat++n.flat)
def Fo.cnt:Fo->Nat
 | .nil=>0
 | .cons _ _ n=>n.cnt+1
def Fo.size:Fo->Nat
 | .nil=>0
 | .cons _ k n=>1+k.size+n.size
def Fo.dep:Fo->Nat
 | .nil=>0
 | .cons _ k n=>max (1+k.dep) n.dep
def Fo.At (p:List Nd):Fo->Nat->Prop
 | .nil,_=>True
 | .cons x k n,i=>p[i]? =some x/\x.kids=(k.cnt:Int)/\k.At p (i+1)/\n.At p (i+1+k.size)
def dB (ks:By):List (Bool×Int):=ks.map λc=>(dY (c.toNat:Int),(c.toNat:Int))
def Fo.V:Fo->List (Bool×Int)->Prop
 | .nil,[]=>True
 | .cons x k n,(true,c)::cs=>(x.op=4/\x.int=0/\x.str=[])/\k.V (List.replicate k.cnt (false,c))/\n.V cs
 | .cons x k n,(false,c)::cs=>(bH c x.op=true/\b_ x c=true/\(av x.op x.kids).2=true)/\k.V (dB (av x.op x.kids).1)/\n.V cs
 |_,_=>False
theorem Fo.V_cnt:∀ {t:Fo} {cs:List (Bool×Int)},t.V cs->t.cnt=cs.length
 | .nil,[],_=>rfl
 | .nil,_::_,h=>h.elim
 | .cons x k n,[],h=>by simp[V] at h
 | .cons x k n,(true,c)::cs,h=>by simp only[cnt,Z04,V_cnt h.2.2]
 | .cons x k n,(false,c)::cs,h=>by simp only[cnt,Z04,V_cnt h.2.2]
theorem Fo.cnt_le:∀ t:Fo,t.cnt<=t.size
 | .nil=>Z02 _
 | .cons x k n=>by have:=cnt_le n;simp only[cnt,size];omega
def uL (p:List Nd) (sl:Bool×Int) (f i e:Nat):Prop:=∃ x k,(Fo.cons x k .nil).At p i/\(Fo.cons x k .nil).V [sl]/\k.dep<f/\e=i+1+k.size
def ForestAt (p:List Nd) (cs:List (Bool×Int)) (f i e:Nat):Prop:=∃ t:Fo,t.At p i/\t.V cs/\t.dep<=f/\e=i+t.size
theorem ForestAt.cons {sl:Bool×Int} {cs:List (Bool×Int)} {f e e':Nat} (h:uL p sl f i e) (r:ForestAt p cs f e e'):ForestAt p (sl::cs) f i e':=by
 obtain⟨x,k,h1,h2,h3,rfl⟩:=h;obtain⟨t,r1,r2,r3,rfl⟩:=r;refine⟨.cons x k t,⟨h1.1,h1.2.1,h1.2.2.1,r1⟩,?_,?_,?_⟩
 ·obtain⟨b,c⟩:=sl
  cases b
  ·exact⟨h2.1,h2.2.1,r2⟩
  ·exact⟨h2.1,h2.2.1,r2⟩
 all_goals grind [Fo.dep,Fo.size]
theorem ForestAt.nil (p:List Nd) (f i:Nat):ForestAt p [] f i i:=⟨.nil,trivial,trivial,Z08 _,rfl⟩
theorem ForestAt.block {p:List Nd} {sl:Bool×Int} {f:Nat} {rec:Nat->Option Nat} (hr:∀ i e,rec i=some e->uL p sl f i e):∀ (k i e:Nat),cR rec k i=some e->ForestAt p (List.replicate k sl) f i e
 |0,i,e,h=>by grind [cR,ForestAt.nil]
 |k+1,i,e,h=>by
  simp only[cR] at h;split at h
  ·rename_i e1 h1
   exact ForestAt.cons (hr _ _ h1) (ForestAt.block hr k e1 e h)
  ·cases h
theorem ForestAt.kids {p:List Nd} {f:Nat} {ch:Int->Nat->Option Nat} (hch:∀ k i e,ch k i=some e->uL p (dY k,k) f i e):∀ (ks:By) (i e:Nat),eJ ch ks i=some e->ForestAt p (dB ks) f i e
 |[],i,e,h=>by simp only[eJ,Z06] at h;subst h;exact ForestAt.nil ..
 |k::ks,i,e,h=>by
  simp only[eJ] at h;split at h
  ·rename_i e1 h1
   exact ForestAt.cons (hch _ _ _ h1) (ForestAt.kids hch ks e1 e h)
  ·cases h
def TreeP (p:List Nd) (f:Nat) (E:Nat->Int->Option Nat):Prop:=∀ i k e,E i k=some e->uL p (false,k) f i e
theorem TreeP.elemS {ok:Bool} {f:Nat} {E0 E1:Nat->Int->Option Nat} (h0:TreeP p f E0) (h1:ok=true->TreeP p (f-1) E1) (hf:ok=true->1<=f):TreeP p (f+1) (elemS p ok E0 E1):=by
 intro i k e h;unfold Go.Proofs.YtegjgpldfgjoiaaGreatDoor.elemS at h;split at h
 ·cases h
 ·rename_i x hx
  split at h
  ·rename_i hc
   have hk:=rO _ _ hc.2.2
   obtain⟨t,t1,t2,t3,t4⟩:=ForestAt.kids (p:=p) (f:=f) (λk i e hch=>(by
    unfold dL at hch;split at hch
    ·rename_i hb
     split at hch
     ·cases hch
     ·rename_i y hy
      split at hch
      ·rename_i hyb
       obtain⟨b1,b2,b3,b4,b5⟩:=hyb;obtain⟨t,t1,t2,t3,t4⟩:=ForestAt.block (λi e h=>h1 b1 i k e h) _ _ _ hch;have hcnt:=Fo.V_cnt t2;rw[Z36] at hcnt;rw[hb];refine⟨y,t,⟨hy,by rw[hcnt];omega,t1,trivial⟩,⟨⟨b2,b3,b4⟩,by rw[hcnt];exact t2,trivial⟩,?_,aa⟩;have:=hf b1;omega
      ·cases hch
    ·rename_i hb
     have hb:dY k=false:=by simpa using hb
     rw[hb]
     exact h0 i k e hch)) _ _ _ h
   have hcnt:=Fo.V_cnt t2;rw[dB,Z0z] at hcnt;exact⟨x,t,⟨hx,ae,t1,trivial⟩,⟨hc,t2,trivial⟩,aa,aa⟩
  ·cases h
theorem TreeP.elemF {p:List Nd}:∀ f,TreeP p f (Go.Proofs.YtegjgpldfgjoiaaGreatDoor.elemF p f)/\TreeP p (f+1) (Go.Proofs.YtegjgpldfgjoiaaGreatDoor.elemF p (f+1))
 |0=>by
  refine⟨λi k e h=>(by cases h),?_⟩;rw[e9];exact TreeP.elemS (λi k e h=>by cases h) (λh=>by grind) (λh=>by grind)
 |f+1=>by
  have ih:=TreeP.elemF (p:=p) f
  grind [e9,TreeP.elemS]
theorem pv {p:List Nd}:∀ (n i:Nat),i<=p.length->qR p n i=true->∃ t:Fo,t.At p i/\t.V (List.replicate t.cnt (false,68))/\t.dep<=32/\p.length=i+t.size
 |0,i,_,h=>by cases h
 |n+1,i,hi,h=>by
  simp only[qR] at h;split at h
  ·rename_i hlt
   split at h
   ·rename_i e he
    obtain⟨x,k,h1,h2,h3,h4⟩:=(TreeP.elemF (p:=p) 32).1 i 68 e he;obtain⟨t,t1,t2,t3,t4⟩:=pv n e (dm he).2 h;subst h4;refine⟨.cons x k t,⟨h1.1,h1.2.1,h1.2.2.1,t1⟩,⟨h2.1,h2.2.1,t2⟩,?_,?_⟩
    all_goals grind [Fo.dep,Fo.size]
   ·cases h
  ·rename_i hge
   exact⟨.nil,trivial,trivial,Z08 _,by simp only[Fo.size];omega⟩
theorem ll (h:eR p=true):p.length<=2048/\∃ t:Fo,t.At p 0/\t.V (List.replicate t.cnt (false,68))/\t.dep<=32/\t.size=p.length:=by
 unfold eR at h;simp only[Z07,decide_eq_true_eq] at h;obtain⟨t,t1,t2,t3,t4⟩:=pv _ 0 (Z08 _) h.2
 grind
theorem At.lt {k n:Fo} (h:(Fo.cons x k n).At p i):i<p.length:=by
 rcases Z0a i p.length with q|q
 ·exact q
 ·have:=h.1;rw[Z0b q] at this;cases this
theorem At.get {k n:Fo} (h:(Fo.cons x k n).At p i):p.getD i dN=x:=by
 rw[Z00,h.1];rfl
theorem At.ends {p:List Nd}:∀ {t:Fo} {i m e:Nat},t.At p i->Ends p e m (i+t.size)->Ends p e (m+t.cnt) i
 | .nil,i,m,e,_,r=>r
 | .cons x k n,i,m,e,h,r=>by
   have hk:(p.getD i dN).kids=(k.cnt:Nat):=by rw[At.get h];exact h.2.1
   have r1:Ends p e (m+n.cnt) (i+1+k.size):=At.ends h.2.2.2 (by grind [Fo.size]);have r2:Ends p e (m+n.cnt+k.cnt) (i+1):=At.ends h.2.2.1 r1;exact Ends.step (At.lt h) k.cnt hk r2
theorem At.ends1 {k n:Fo} (h:(Fo.cons x k n).At p i):Ends p (i+1+k.size) 1 i:=by
 have h1:(Fo.cons x k .nil).At p i:=⟨h.1,h.2.1,h.2.2.1,trivial⟩
 have:=At.ends (m:=0) (e:=i+1+k.size) h1 (by simp only[Fo.size];rw[show i+(1+k.size+0)=i+1+k.size by omega];exact Ends.done)
 simpa [Fo.cnt] using this
def Fo.starts:Fo->Nat->List Nat
 | .nil,_=>[]
 | .cons _ k n,i=>i::n.starts (i+1+k.size)
theorem bE:∀ (t:Fo) (i:Nat),(t.starts i).length=t.cnt
 | .nil,_=>rfl
 | .cons x k n,i=>by simp only[Fo.starts,Z04,bE n,Fo.cnt]
theorem At.chain {p:List Nd}:∀ {t:Fo} {i:Nat},t.At p i->Chain p (i+t.size) i (t.starts i)
 | .nil,i,_=>Chain.nil
 | .cons x k n,i,h=>by
   refine Chain.cons (At.ends1 h) ?_;have:=At.chain h.2.2.2
   grind [Fo.size]
theorem At.size_le {p:List Nd}:∀ {t:Fo} {i:Nat},i<=p.length->t.At p i->i+t.size<=p.length
 | .nil,i,hi,_=>hi
 | .cons x k n,i,hi,h=>by
   have h1:=At.lt h;have h2:=At.size_le h1 h.2.2.1;have:=At.size_le h2 h.2.2.2;simp only[Fo.size];omega
end
theorem GW (l:List By) (sep:By) (hN:l.length<=140737488355328) (hlen:(Lib.join l sep).length<=140737488355328):FQ 98 [.s (bc l),sV sep] 0 [] (sV (Lib.join l sep)) 0 []:=by
 refine FC.below aK λφ xs w hx hg=>?_
 match xs,hx with
 |[a,b],⟨h1,h2,_⟩=>
  have h2:b=.string ⟨sep.toArray⟩:=h2;subst h2;have h1:Pr φ.z (bc l) a:=h1;unfold bc at h1;generalize hn:l.length=n at h1
  cases h1 with
  |nil _ _ ad k hk=>
   have hl:l=[]:=Z4u.1 hn;subst hl;refine (Tryz.strings_Join_none ad k ⟨sep.toArray⟩ w).mono ?_;rintro e w' ⟨rfl,rfl⟩;exact⟨_,rfl,λ_ _=>rfl,Go.RowKit.Below.refl _ _⟩
  |frz _ _ _ bk o k vs hz hle val hl hv hpx=>
   obtain⟨⟨ty,fr,hb⟩,_⟩:=hg.fz bk vs hz
   have hcell:∀ (j:Nat) x,(l.map λs=>(⟨s.toArray⟩:ByteArray))[j]? =some x->w.cell? ⟨bk,o+j,none⟩=some (.string x):=by
    intro j x hj;rw[Z0t] at hj
    have hjl:j<l.length:=by
     grind
    rw[Z01 hjl] at hj;simp only[Z1j,Z06] at hj;have e0:([S.str (l.getD j [])]:List S)[0]? =some (.str (l.getD j [])):=rfl;have h3:=hv j 0 _ aa e0;have h4:=hpx j 0 _ aa e0
    have h5:val j 0=.string ⟨(l.getD j []).toArray⟩:=by
     generalize val j 0=y at h4;cases h4;rfl
    rw[Z1p,Z0p,h5] at h3;simp only[World.cell?,hb,Z2b,Z0l,if_false,Z1a]
    grind
   have hmap:(l.map λs=>(⟨s.toArray⟩:ByteArray)).map (·.data.toList)=l:=by rw[List.map_map];simp[Function.comp_def]
   have:=Tryz.strings_Join bk o k (l.map λs=>(⟨s.toArray⟩:ByteArray)) ⟨sep.toArray⟩ w hcell (hg.fzlt hz) ae ae ae;rw[hmap,Z0z,hn] at this;refine this.mono ?_;rintro e w' ⟨rfl,hbl⟩;exact⟨_,rfl,λ_ _=>rfl,hbl⟩
theorem BG (s:By):FQ 97 [sV s,nI 0] 0 [] (sV []) 0 []:=by
 refine wW Tryz.func97 ?_
 repeat'(first|refine y1 ?_|refine y2 ?_ ?_|refine y4 λh=>?_|refine Fin.str (.inl rfl) rfl rfl|refine y3 ?_|exact y5|fail)
def aM (p:Pth):By:=if aG p then (if p.root then [92] else List.replicate p.up.toNat 94)++Lib.join p.segs [46] else []
theorem eW {s:By} (h:a_ s=true):1<=s.length/\s.length<=4:=by
 grind [a_]
theorem oN:∀ {l:List By},l.all a_=true->(Lib.join l [46]).length<=5*l.length
 |[],_=>by simp[Lib.join]
 |[x],h=>by
  simp only[Z1b,Z2u,Z3m] at h;have:=eW h;simp[Lib.join];omega
 |x::y::l,h=>by
  have h1:a_ x=true/\(y::l).all a_=true:=ae;have:=eW h1.1;have ih:=oN h1.2
  have e:Lib.join (x::y::l) [46]=x++46::Lib.join (y::l) [46]:=by simp[Lib.join,List.intercalate]
  grind
theorem Mi (up:Int) (segs:List By):FQ 50 [.agg [.bool true,.int .i64 up,bc segs]] 0 [] (sV (aM ⟨true,up,segs⟩)) 0 []:=by
 have hv:=fm true up segs;refine wW Tryz.func50 ?_
 cases h1:aG ⟨true,up,segs⟩<;>rw[h1] at hv
 ·
  repeat'(first|refine y1 ?_|refine y2 ?_ ?_|refine bG hv ?_|refine Fin.str (.inl rfl) rfl ?_|refine y3 ?_|exact y5|fail)
  unfold aM;rw[h1];rfl
 ·
  obtain⟨v1,v2,v3,v4,v5,v6⟩:=aR h1;simp only at v1 v2 v3 v4 v5 v6;have hu:=v4 trivial;subst hu;have hjl:=oN v5;have hj:=GW segs [46] aa aa;have hr:=BG [94]
  repeat'(first|refine y1 ?_|refine y2 ?_ ?_|refine bG hv ?_|refine an hr ?_|refine an hj ?_|refine Fin.str (.inl rfl) rfl ?_|refine y3 ?_|exact y5|fail)
  all_goals grind [aM]
theorem qh (p:Pth) (h:p.root=true):FQ 50 [hY p] 0 [] (sV (aM p)) 0 []:=by
 obtain⟨r,u,s⟩:=p;simp only at h;subst h;exact Mi u s
section
variable {s c:By} {p:Pth} {root:Bool} {u:Nat} {l:List By}
theorem mG {c:UInt8}:∀ {r:By},(∀ j,j<r.length->r.getD j 0≠c)->aL c r=[r]
 |[],_=>rfl
 |b::l,h=>by
  have hb: ¬b=c:=by simpa using h 0 aq
  have ih:=mG (c:=c) (r:=l) λj hj=>by simpa using h (j+1) (by simpa using hj)
  simp only[aL,if_neg hb,ih]
theorem rD {c:UInt8}:∀ {r:By} {m:Nat},m<r.length->(∀ j,j<m->r.getD j 0≠c)->r.getD m 0=c->aL c r=r.take m::aL c (r.drop (m+1))
 |[],m,h,_,_=>by grind
 |b::l,0,_,_,h=>by
  grind [aL]
 |b::l,m+1,hm,h,hc=>by
  have hb: ¬b=c:=by simpa using h 0 aq
  have ih:=rD (c:=c) (r:=l) (m:=m) ae (λj hj=>by grind) ae;simp only[aL,if_neg hb,ih,List.take_succ_cons,Z59]
theorem vd {c:UInt8} (s:By):aL c s≠[]:=λh=>by
 grind [iI]
theorem io {a:By} (h:l≠[]):Lib.join (a::l) c=a++c++Lib.join l c:=by
 cases l with
 |nil=>grind
 |cons b t=>simp[Lib.join,List.intercalate]
theorem jI {a:By}:Lib.join [a] c=a:=by simp[Lib.join,List.intercalate]
theorem wn:Lib.join [] c=[]:=by simp[Lib.join,List.intercalate]
theorem p_ (c:UInt8):∀ s:By,Lib.join (aL c s) [c]=s
 |[]=>jI
 |b::l=>by
  have ih:=p_ c l;by_cases hb:b=c
  ·subst hb
   simp only[aL,if_true];rw[io (vd l),ih];rfl
  ·simp only[aL,if_neg hb]
   cases e:aL c l with
   |nil=>exact absurd e (vd l)
   |cons h t=>
    rw[e] at ih;simp only
    cases t with
    |nil=>rw[jI] at ih |-;rw[ih]
    |cons h' t'=>
     grind [io]
theorem rQ {c:By}:∀ {l:List By} {a:By},Lib.join (l++[a]) c=if l=[] then a else Lib.join l c++c++a
 |[],a=>jI
 |b::l,a=>by
  rw[if_neg aq]
  cases l with
  |nil=>
   grind [io,jI]
  |cons d t=>
   rw[Z25,io aq,rQ,if_neg aq,io (a:=b) aq]
   grind
theorem HX (h:l.all a_=false):fQ ⟨root,u,l⟩=(z0,false):=by
 grind [fQ,aG]
theorem B7 (h:32<l.length):fQ ⟨root,u,l⟩=(z0,false):=by
 grind [fQ,aG]
theorem lr (root:Bool) (u:Nat) (rest:By):eP root u rest=if rest=[] then fQ ⟨root,u,[]⟩ else if (aL 46 rest).all a_ then fQ ⟨root,u,aL 46 rest⟩ else (z0,false):=by
 unfold eP
 by_cases h:rest=[]
 ·grind
 ·rw[if_neg h,if_neg h]
  by_cases hc:32<=rest.count 46
  ·rw[if_pos hc]
   rw[B7 (by rw[iI];omega)]
   split<;>rfl
  all_goals grind [HX]
theorem sJ:∀ s:By,s=List.replicate (cU s).1 94++(cU s).2
 |[]=>rfl
 |b::l=>by
  unfold cU;split
  ·rename_i h;subst h
   have:=sJ l
   grind
  ·rfl
theorem AL {q:Pth} (h:fQ p=(q,true)):q=p/\aG p=true:=by
 grind [fQ]
theorem sN {rest:By} (h:eP root u rest=(p,true)):p=⟨root,u,if rest=[] then [] else aL 46 rest⟩/\aG p=true:=by
 rw[lr] at h;split at h
 ·rename_i hr
  obtain⟨rfl,hv⟩:=AL h
  grind
 ·rename_i hr
  split at h
  ·obtain⟨rfl,hv⟩:=AL h
   grind
  ·cases h
theorem uY {rest:By} (h:eP root u rest=(p,true)) (hu:root=true->u=0):aM p=(if root then [92] else List.replicate u 94)++rest:=by
 obtain⟨rfl,hv⟩:=sN h
 grind [wn,p_,aM]
theorem Jd (s:By):(dJ s [92]=(s.drop 1,true)/\s=92::s.drop 1)\/(dJ s [92]=(s,false)/\s.head? ≠some 92):=by
 unfold dJ
 cases s with
 |nil=>exact .inr ⟨by simp[dZ],aq⟩
 |cons b l=>
  grind [dZ]
theorem rV (h:ai s=(p,true)):aM p=s:=by
 unfold ai at h
 rcases Jd s with ⟨e1,e2⟩|⟨e1,e2⟩
 ·rw[e1] at h
  simp only[if_true] at h;rw[uY h (λ_=>rfl)];exact e2.symm
 all_goals grind [uY,sJ]
theorem jA (h:ai s=(p,true)):aG p=true:=by
 unfold ai at h;split at h
 ·exact (sN h).2
 ·exact (sN h).2
theorem vm (h:a_ s=true) {c:UInt8} (hc:c∈s):(65<=c.toNat/\c.toNat<=90)\/c.toNat=95\/(48<=c.toNat/\c.toNat<=57):=by
 unfold a_ at h;simp only[Z07,decide_eq_true_eq,Z0i,Z29] at h;obtain⟨i,hi,rfl⟩:=Z2r.1 hc
 grind [nN,xS]
theorem Bx (h:a_ s=true):aL 46 s=[s]:=by
 refine mG λj hj e=>?_
 rw[Z00,Z01 hj] at e;have:=vm h (Z0s hj);simp only[Z22] at e;rw[e] at this
 grind
theorem BJ (h:a_ s=true):ai s=(⟨false,0,[s]⟩,true):=by
 have hl:=eW h
 cases s with
 |nil=>simp at hl
 |cons b l=>
  have hb:=vm h (Z17 ..)
  have h92: ¬b=92:=λe=>by subst e;revert hb;decide
  have h94: ¬b=94:=λe=>by subst e;revert hb;decide
  have e1:dJ (b::l) [92]=(b::l,false):=by simp[dJ,dZ,h92]
  unfold ai;rw[e1];simp only[Z0l,if_false]
  have e2:cU (b::l)=(0,b::l):=by simp[cU,h94]
  rw[e2];simp only;rw[lr,if_neg aq,Bx h]
  grind [fQ,aG]
theorem GX (h:ai s=(p,true)):BA p=a_ s:=by
 have hf:=rV h;have hv:=jA h;obtain⟨root,up,segs⟩:=p
 cases hs:a_ s with
 |true=>
  rw[BJ hs] at h;cases h;rfl
 |false=>
  rw[Bool.eq_false_iff];intro hp;unfold BA at hp;simp only[Z07,Z0v,decide_eq_true_eq] at hp;obtain⟨⟨rfl,rfl⟩,hl⟩:=hp;obtain⟨a,rfl⟩:∃ a,segs=[a]:=Z5o.1 aa;have hall:=(aR hv).2.2.2.2.1
  grind [jI,aM]
end
section
variable {l:List By}
theorem Bt {j:Nat} (h:j<l.length):l.take (j+1)=l.take j++[l.getD j []]:=by
 rw[Z49,Z01 h,Z00,Z01 h];rfl
theorem tK (h:l.all a_=true) (j:Nat):(Lib.join (l.take j) [46]).length<=5*l.length:=by
 have h2:(l.take j).all a_=true:=by
  rw[Z0i] at h |-
  exact λx hx=>h x (Z2x hx)
 have:=oN h2;rw[Z19] at this;omega
theorem mJ (h:l.all a_=true) {j:Nat} (hj:j<l.length):(l.getD j []).length<=4:=by
 rw[Z0i] at h;rw[Z00,Z01 hj];exact (eW (h _ (Z0s hj))).2
theorem Kx (root:Bool) (up:Int) (segs:List By) (hs:∀ i,i<segs.length->(segs.getD i []).length<9223372036854775807):FQ 54 [.agg [.bool root,.int .i64 up,bc segs]] 0 [] (sV (aM ⟨root,up,segs⟩)) 0 []:=by
 have hv:=ga root up segs hs;refine wW Tryz.func54 ?_
 cases h1:aG ⟨root,up,segs⟩<;>rw[h1] at hv
 ·
  repeat'(first|refine y1 ?_|refine y2 ?_ ?_|refine bG hv ?_|refine Fin.str (.inl rfl) rfl ?_|refine y3 ?_|exact y5|fail)
  unfold aM;rw[h1];rfl
 ·
  obtain⟨v1,v2,v3,v4,v5,v6⟩:=aR h1;simp only at v1 v2 v3 v4 v5 v6;obtain⟨u,rfl⟩:=Z2a v1
  have hpre:aM ⟨root,u,segs⟩=((if root then [92] else [])++List.replicate u 94)++Lib.join segs [46]:=by
   unfold aM;rw[if_pos h1];simp only;cases root
   ·simp
   ·have:=v4 rfl
    have hu:u=0:=aa;subst hu;simp
  rw[hpre];clear hpre
  obtain⟨pre,hpre⟩:∃ pre:By,pre=(if root then [92] else []):=⟨_,rfl⟩
  rw[<-hpre]
  have hpl:pre.length<=1:=by rw[hpre];cases root<;>simp
  cases root
  all_goals
   repeat'(first|refine yA ?_|refine y2 ?_ ?_|refine bG hv ?_|exact y5|fail)
   refine cy (σ:=Nat) (λj=>[(4,nI j),(3,sV (pre++List.replicate j 94))]) (λ_=>[(0,some {cells:=[.bool _,.int .i64 (u:Int),bc segs],ty:=99})]) (λj=>j<=u) (λj=>u-j) 0 rfl (λ_=>rfl) (Z08 _) ⟨ah _,bB (congrArg sV (by rw[hpre];rfl)),trivial⟩ ⟨rfl,trivial⟩ ?_;intro j hj;by_cases hlt:j<u
   ·
    repeat'(first|refine yA ?_|refine y2 ?_ ?_|refine y4 λh=>?_|exact y5|fail)
    all_goals try (simp only[Z03,Z36,Z04,Z0e];omega)
    refine dz (j+1) aa aa rfl ⟨ah _,bB (congrArg sV ?_),trivial⟩ ⟨rfl,trivial⟩ rfl rfl ac;rw[List.replicate_succ',<-Z14]
   ·
    obtain rfl:j=u:=aa
    repeat'(first|refine yA ?_|refine y2 ?_ ?_|refine y4 λh=>?_|exact y5|fail)
    refine cy (σ:=Nat) (λi=>[(5,nI i),(3,sV ((pre++List.replicate j 94)++Lib.join (segs.take i) [46]))]) (λ_=>[(0,some {cells:=[.bool _,.int .i64 (j:Int),bc segs],ty:=99})]) (λi=>i<=segs.length) (λi=>segs.length-i) 0 rfl (λ_=>rfl) (Z08 _) ⟨ah _,bB (congrArg sV (Z0u _).symm),trivial⟩ ⟨rfl,trivial⟩ ?_;intro i hi;have hjl:=tK v5 i;by_cases hlt2:i<segs.length
    ·
     have hsg:=mJ v5 hlt2;have htk:=rQ (c:=[46]) (l:=segs.take i) (a:=segs.getD i []);rw[<-Bt hlt2] at htk;by_cases h0:i=0
     ·subst h0
      repeat'(first|refine yA ?_|refine y2 ?_ ?_|refine y4 λh=>?_|exact y5|fail)
      all_goals try (simp only[Z03,Z36,Z04,Z0e];omega)
      refine dz 1 aa aa rfl ⟨ah _,bB (congrArg sV ?_),trivial⟩ ⟨rfl,trivial⟩ rfl rfl ac;rw[show segs.take 1=segs.take (0+1) from rfl,htk,if_pos aq,List.take_zero,wn,Z0u]
     ·
      have hne:segs.take i≠[]:=by
       intro e;have:=congrArg List.length e;rw[Z19,Z0e] at this;omega
      rw[if_neg hne] at htk
      repeat'(first|refine yA ?_|refine y2 ?_ ?_|refine y4 λh=>?_|exact y5|fail)
      all_goals try (simp only[Z03,Z36,Z04,Z0e];omega)
      refine dz (i+1) aa aa rfl ⟨ah _,bB (congrArg sV ?_),trivial⟩ ⟨rfl,trivial⟩ rfl rfl ac;rw[htk];simp only[Z14]
    ·
     obtain rfl:i=segs.length:=aa
     repeat'(first|refine y1 ?_|refine y2 ?_ ?_|refine y4 λh=>?_|refine Fin.str (.inl rfl) rfl ?_|refine y3 ?_|exact y5|fail)
     all_goals (rw[Z1v])
theorem kZ (p:Pth) (hs:∀ i,i<p.segs.length->(p.segs.getD i []).length<9223372036854775807):FQ 54 [hY p] 0 [] (sV (aM p)) 0 []:=Kx p.root p.up p.segs hs
end
