import Derived.Test.YtegjgpldfgjoiaaGreatDoorCnM22
import Derived.Test.YtegjgpldfgjoiaaGreatDoorCnM23
import Derived.Test.YtegjgpldfgjoiaaGreatDoorCnM01
import Derived.Test.YtegjgpldfgjoiaaGreatDoorCnM19
import Derived.Test.YtegjgpldfgjoiaaGreatDoorCnM17
import Derived.Test.YtegjgpldfgjoiaaGreatDoorCnM27
set_option linter.all false
namespace Go.Proofs.YtegjgpldfgjoiaaGreatDoor
open Go Ab
set_option maxRecDepth 100000
set_option maxHeartbeats 40000000
section
variable {p:List Nd} {num:Int} {E:List Ent} {fs:List Fd}
abbrev DR:=List Ent×List Fd×Int
def ii (i:Nat) (sc:Pth) (fs:List Fd) (R:List Ent×List Int×Int×Int):DR:=(R.1,sf i sc fs R,R.2.2.2)
def fV (p:List Nd) (num:Int) (x:Nd) (k:Fo) (i:Nat) (sc:Pth) (E:List Ent) (fs:List Fd) (rec:Pth->List Ent->List Fd->DR):DR:=
 if x.op=10 then (if (bS p (i+1) sc).2=false then (E,fs,6) else if (eT E (bS p (i+1) sc).1).2=false then (E,fs,6) else rec (bS p (i+1) sc).1 E fs)
 else if x.op=16 then ii i sc fs (dB p num sc (ai p (i+4-2)) (ai p (i+4-1)) (ak k) (i+4+1) E [] 0)
 else if x.op=17 then ii i sc fs (dB p num sc (ai p (i+5-2)) (ai p (i+5-1)) (ak k) (i+5+1) E [] 0)
 else if (bt p num E i sc).2.2.2≠0 then ((bt p num E i sc).1,fs,(bt p num E i sc).2.2.2)
 else if x.op=11\/x.op=12 then rec (bt p num E i sc).2.2.1 (bt p num E i sc).1 fs
 else ((bt p num E i sc).1,fs,0)
def aS (p:List Nd) (num:Int):Bool->Fo->Nat->Pth->List Ent->List Fd->DR
 |_,.nil,_,_,E,fs=>(E,fs,0)
 |true,.cons x k n,i,sc,E,fs=>if x.op=4 then aS p num false k (i+1) sc E fs else aS p num true n (i+1+k.size) sc E fs
 |false,.cons x k n,i,sc,E,fs=>
  if (fV p num x k i sc E fs λsc E fs=>aS p num true k (i+1) sc E fs).2.2=0
  then aS p num false n (i+1+k.size) sc (fV p num x k i sc E fs λsc E fs=>aS p num true k (i+1) sc E fs).1 (fV p num x k i sc E fs λsc E fs=>aS p num true k (i+1) sc E fs).2.1
  else fV p num x k i sc E fs λsc E fs=>aS p num true k (i+1) sc E fs
theorem si {x:Nd} {k:Fo} {i:Nat} {sc:Pth}:aS p num false (.cons x k .nil) i sc E fs=fV p num x k i sc E fs λsc E fs=>aS p num true k (i+1) sc E fs:=by
 rw[aS];generalize fV p num x k i sc E fs _=R;obtain⟨a,b,c⟩:=R;by_cases h:c=0
 ·subst h;simp[aS]
 ·simp[h]
theorem uZ {x:Nd} {k n:Fo} {i:Nat} {sc:Pth}:aS p num false (.cons x k n) i sc E fs=
 if (aS p num false (.cons x k .nil) i sc E fs).2.2=0 then aS p num false n (i+1+k.size) sc (aS p num false (.cons x k .nil) i sc E fs).1 (aS p num false (.cons x k .nil) i sc E fs).2.1 else aS p num false (.cons x k .nil) i sc E fs:=by
 rw[si];rfl
theorem dY {p:List Nd} {num c':Int}:∀ (ls:List Int) (t:Fo),(ls.all d8)=true->t.V (ls.map (λc=>(false,c))++[(true,c')])->∀ (i:Nat) (sc:Pth) (E:List Ent) (fs:List Fd),aS p num true t i sc E fs=aS p num false (ak t) (i+ls.length+1) sc E fs
 |[],t,_,h,i,sc,E,fs=>by
  obtain⟨y,bl,n,rfl,h1,h2,h3⟩:=iZ h;have:=gS h1;subst this;rw[aS,if_pos h2];rfl
 |c::ls,t,hl,h,i,sc,E,fs=>by
  simp only[Z1b,Z07] at hl;obtain⟨y,n,rfl,h1,h2⟩:=d6 hl.1 h;obtain⟨b,g3,_⟩:=aR ls n hl.2 h1
  have hn:ak (.cons y .nil n)=ak n:=by
   cases n with
   |nil=>simp only[Fo.size] at g3;omega
   |cons a b c=>rfl
  rw[aS,if_neg aa,hn,dY ls n hl.2 h1];simp only[Fo.size,Z04,Z0p];rw[show i+1+ls.length+1=i+(ls.length+1)+1 by omega]
theorem uo (k:Int):dd (av 10 k).1=[(false,110)]++[(true,68)]:=rfl
theorem um (k:Int):dd (av 11 k).1=[(false,115)]++[(true,68)]:=rfl
theorem ul (k:Int):dd (av 12 k).1=[(false,115),(false,105),(false,105)]++[(true,68)]:=rfl
theorem uq (k:Int):dd (av 16 k).1=[(false,110),(false,105),(false,105)]++[(true,70)]:=rfl
theorem ui (k:Int):dd (av 17 k).1=[(false,110),(false,110),(false,105),(false,105)]++[(true,70)]:=rfl
theorem gt {nt:Int} {Eo:List Nat}:eV 6 (eL nt num p Eo E fs)=true:=by
 unfold eL mt;generalize List.flatMap lj fs=cg
 cases cg<;>rfl
section
variable (nt num:Int) (p:List Nd) (Eo:List Nat)
def DecP (N:Nat):Prop:=∀ (x:Nd) (k:Fo) (i:Nat) (sc:Pth) (E:List Ent) (fs:List Fd),k.size<N->(Fo.cons x k .nil).At p i->(Fo.cons x k .nil).V [(false,68)]->sc.root=true->fs.length+k.size<100000->
 FC Tryz.prog 126 [.s (.ptr (some (0,0))),nI i,gw sc] 6 (eL nt num p Eo E fs) (.s (.int .i64 (aS p num false (.cons x k .nil) i sc E fs).2.2)) 8 (AC nt num p Eo (aS p num false (.cons x k .nil) i sc E fs).1 (aS p num false (.cons x k .nil) i sc E fs).2.1)
def Ha (N:Nat):Prop:=∀ (t:Fo) (i:Nat) (sc:Pth) (E:List Ent) (fs:List Fd),t.size<=N->t.At p i->t.V (List.replicate t.cnt (false,68))->sc.root=true->fs.length+t.size<100000->
 FC Tryz.prog 69 [.s (.ptr (some (0,0))),nI i,nI (i+t.size:Nat),gw sc] 6 (eL nt num p Eo E fs) (.s (.int .i64 (aS p num false t i sc E fs).2.2)) 8 (AC nt num p Eo (aS p num false t i sc E fs).1 (aS p num false t i sc E fs).2.1)
def J7 (N:Nat):Prop:=∀ (x:Nd) (k:Fo) (i:Nat) (sc:Pth) (E:List Ent) (fs:List Fd),k.size<=N->(Fo.cons x k .nil).At p i->k.V (List.replicate k.cnt (false,68))->sc.root=true->fs.length+k.size<100000->
 FC Tryz.prog 185 [.s (.ptr (some (0,0))),nI i,gw sc] 6 (eL nt num p Eo E fs) (.s (.int .i64 (aS p num false k (i+1) sc E fs).2.2)) 8 (AC nt num p Eo (aS p num false k (i+1) sc E fs).1 (aS p num false k (i+1) sc E fs).2.1)
end
theorem uW (i:Nat) (sc:Pth) (fs:List Fd) (R:List Ent×List Int×Int×Int):(sf i sc fs R).length<=fs.length+1:=by
 unfold sf;split<;>simp
theorem gL {p:List Nd} {num:Int}:∀ (m:Bool) (t:Fo) (i:Nat) (sc:Pth) (E:List Ent) (fs:List Fd),(aS p num m t i sc E fs).2.1.length<=fs.length+t.size
 |_,.nil,_,_,E,fs=>by cases ‹Bool›<;>exact Z02 _
 |true,.cons x k n,i,sc,E,fs=>by
  rw[aS];simp only[Fo.size];split
  ·have:=gL (p:=p) (num:=num) false k (i+1) sc E fs;omega
  ·have:=gL (p:=p) (num:=num) true n (i+1+k.size) sc E fs;omega
 |false,.cons x k n,i,sc,E,fs=>by
  have ih:∀ sc E fs,(aS p num true k (i+1) sc E fs).2.1.length<=fs.length+k.size:=λsc E fs=>gL true k (i+1) sc E fs
  have h1:(fV p num x k i sc E fs λsc E fs=>aS p num true k (i+1) sc E fs).2.1.length<=fs.length+k.size+1:=by
   unfold fV ii
   repeat' split
   all_goals first
    |exact Nat.le_succ_of_le (ih _ _ _)
    |(have:=uW i sc fs (dB p num sc (ai p (i+4-2)) (ai p (i+4-1)) (ak k) (i+4+1) E [] 0);simp only;omega)
    |(have:=uW i sc fs (dB p num sc (ai p (i+5-2)) (ai p (i+5-1)) (ak k) (i+5+1) E [] 0);simp only;omega)
    |(simp only;omega)
  rw[aS];simp only[Fo.size];generalize fV p num x k i sc E fs _=R at h1 |-;split
  ·have:=gL (p:=p) (num:=num) false n (i+1+k.size) sc R.1 R.2.1;omega
  ·omega
theorem C8 (nt num:Int) (p:List Nd) (Eo:List Nat) (hp:p.length<=2048) (hE:EOK p Eo) (N:Nat) (ih:DecP nt num p Eo N):Ha nt num p Eo N:=by
 intro t i sc E fs hN ha hv hsc hfs;generalize hR:aS p num false t i sc E fs=R;have hel:=hE.len;refine wW Tryz.func69 ?_
 repeat'(first|exact y0|refine y1 ?_|refine y2 ?_ ?_|refine y4 λh=>?_|refine y3 ?_|exact y5|fail)
 refine Ex.canon [0,1,2,3,4,5,4,5,6] 29 [(0,.s (.ptr (some (0,0)))),(2,nI (i+t.size:Nat)),(7,.s (.ptr (some (8,0)))),(9,nI i)] [(0,some (fX (E.length:Nat) nt num p Eo (.row 6 7 fs.length) (.slc none 0 (some 0)))),(1,some (oB E)),(2,some (pB E)),(6,mt 6 fs),(8,some {cells:=bX sc,ty:=99})] rfl rfl ⟨VLe.refl _,VLe.refl _,VLe.refl _,VLe.refl _,trivial⟩ ⟨rfl,rfl,rfl,MemP.op rfl ⟨rfl,trivial⟩⟩ (by unfold mt;generalize List.flatMap lj fs=cg;cases cg<;>rfl) ?_
 refine Ex.inv (σ:=Fo×Nat×List Ent×List Fd) (λq=>[(9,nI q.2.1)]) (λq=>[(0,some (fX (q.2.2.1.length:Nat) nt num p Eo (.row 6 7 q.2.2.2.length) (.slc none 0 (some 0)))),(1,some (oB q.2.2.1)),(2,some (pB q.2.2.1)),(6,mt 6 q.2.2.2),(8,some {cells:=bX sc,ty:=99})])
  (λq=>q.1.At p q.2.1/\q.1.V (List.replicate q.1.cnt (false,68))/\(i<=q.2.1/\q.2.1+q.1.size=i+t.size)/\q.1.size<=N/\q.2.2.2.length+q.1.size<100000/\aS p num false q.1 q.2.1 sc q.2.2.1 q.2.2.2=R) (λq=>q.1.size) (t,i,E,fs) rfl (λ_=>rfl) ?_ ?_ ?_ ?_
 ·exact⟨ha,hv,⟨Z02 _,rfl⟩,hN,hfs,hR⟩
 ·exact aV
 ·exact⟨rfl,rfl,rfl,SubP.op rfl ⟨rfl,trivial⟩⟩
 rintro⟨t',cur,E1,fs1⟩ ⟨t1,t2,⟨t3,t4⟩,t5,t6,t7⟩;simp only at t1 t2 t3 t4 t5 t6 t7 |-
 cases t' with
 |nil=>
  simp only[aS] at t7;subst t7;simp only[Fo.size] at t4
  repeat'(first|exact y0|refine y1 ?_|refine y2 ?_ ?_|refine y4 λh=>?_|refine y3 ?_|exact y5|fail)
  exact Fin.fd 6 (.inl rfl) rfl rfl rfl rfl rfl rfl rfl rfl
 |cons y k n=>
  simp only[Fo.size] at t4 t5 t6;have hcl:=At.lt t1;have hec:=hE.get t1;have hd:=ih y k cur sc E1 fs1 aa ⟨t1.1,t1.2.1,t1.2.2.1,trivial⟩ ⟨t2.1,t2.2.1,trivial⟩ hsc aa;have hl:=gL (p:=p) (num:=num) false (.cons y k .nil) cur sc E1 fs1;simp only[Fo.size] at hl;rw[uZ] at t7;generalize aS p num false (.cons y k .nil) cur sc E1 fs1=R1 at hd t7 hl;obtain⟨E2,fs2,e⟩:=R1;simp only at hd t7 hl;by_cases he:e=0
  ·subst he
   rw[if_pos rfl] at t7
   repeat'(first|exact y0|refine y1 ?_|refine y2 ?_ ?_|refine y4 λh=>?_|(refine wX 126 ?_;refine iq [0,1,2,3,6,7] hd ?_ (wr:=[(0,some (fX (E2.length:Nat) nt num p Eo (.row 9 10 fs2.length) (.slc none 0 (some 0)))),(1,some (oB E2)),(2,some (pB E2)),(6,none),(9,mt 9 fs2)]) (k2:=gt))|refine y3 ?_|exact y5|fail)
   all_goals try omega
   refine LoopR.move (n,cur+1+k.size,E2,fs2) ⟨t1.2.2.2,t2.2.2,⟨by simp only;omega,by simp only;omega⟩,by simp only;omega,by simp only;omega,t7⟩ (by simp only[Fo.size];omega) [0,1,2,3,4,5,9,10,8] rfl ?_ ?_ ?_
   ·repeat' (first|exact VLe.refl _|exact VLe.any _|exact Z0o|exact VLe.of_eq (congrArg nI (by rw[hec]))|refine⟨?_,?_⟩)
   ·exact⟨rfl,rfl,rfl,MemP.op rfl ⟨rfl,trivial⟩⟩
   ·unfold mt
    generalize List.flatMap lj fs2=cg
    cases cg<;>rfl
  ·rw[if_neg he] at t7
   subst t7
   repeat'(first|exact y0|refine y1 ?_|refine y2 ?_ ?_|refine y4 λh=>?_|(refine wX 126 ?_;refine iq [0,1,2,3,6,7] hd ?_ (wr:=[(0,some (fX (E2.length:Nat) nt num p Eo (.row 9 10 fs2.length) (.slc none 0 (some 0)))),(1,some (oB E2)),(2,some (pB E2)),(6,none),(9,mt 9 fs2)]) (k2:=gt))|refine y3 ?_|exact y5|fail)
   all_goals try omega
   exact Fin.fd 9 (.inl rfl) rfl rfl rfl rfl rfl rfl rfl rfl
theorem JV (nt num:Int) (p:List Nd) (Eo:List Nat) (hp:p.length<=2048) (hE:EOK p Eo) (N:Nat) (ih:Ha nt num p Eo N):J7 nt num p Eo N:=by
 intro x k i sc E fs hN ha hv hsc hfs;have hel:=hE.len;have hil:=At.lt ha;have hei:=hE.get ha;have hd:=ih k (i+1) sc E fs hN ha.2.2.1 hv hsc hfs;generalize aS p num false k (i+1) sc E fs=R at hd |-;obtain⟨E2,fs2,e⟩:=R;simp only at hd |-;refine wW Tryz.func185 ?_
 repeat'(first|exact y0|refine y1 ?_|refine y2 ?_ ?_|refine y4 λh=>?_|(refine wX 69 ?_;refine iq [0,1,2,3,4,5] hd ?_ (wr:=[(0,some (fX (E2.length:Nat) nt num p Eo (.row 7 8 fs2.length) (.slc none 0 (some 0)))),(1,some (oB E2)),(2,some (pB E2)),(4,none),(7,mt 7 fs2)]) (k2:=gt) (hle:=by exact⟨VLe.refl _,VLe.of_eq (congrArg nI (by push_cast;rfl)),VLe.of_eq (congrArg nI (by rw[hei])),VLe.refl _,trivial⟩))|refine y3 ?_|exact y5|fail)
 all_goals try first
  |omega
  |(rw[hei];omega)
 exact Fin.fd 7 (.inl rfl) rfl rfl rfl rfl rfl rfl rfl rfl
end
section
variable {p:List Nd}
theorem HY {nt num:Int} {Eo:List Nat} {nx:Int} {f:FuncId} {args:List V} {v:V} {fs rs:S} (hf:ya fs=false) (hr:ya rs=false) (h:∀ x y:Value,FC Tryz.prog f args 6 [(0,some (fX nx nt num p Eo (.cst x) (.cst y)))] v 6 [(0,some (fX nx nt num p Eo (.cst x) (.cst y)))]):
 FC Tryz.prog f args 6 [(0,some (fX nx nt num p Eo fs rs))] v 6 [(0,some (fX nx nt num p Eo fs rs))]:=by
 refine⟨(h (.int .i64 0) (.int .i64 0)).1,?_⟩
 refine SC.cst (i:=0) (o:=8) (i':=0) (o':=8) (s:=fs) rfl rfl rfl rfl hf rfl rfl λx hx=>?_
 refine SC.cst (i:=0) (o:=9) (i':=0) (o':=9) (s:=rs) rfl rfl rfl rfl hr rfl rfl λy hy=>?_
 exact (h x y).2
theorem Cb {nt num:Int} {Eo:List Nat} {E:List Ent} {f:FuncId} {args:List V} {v:V} {fs rs:S} (hf:ya fs=false) (hr:ya rs=false) (h:∀ x y:Value,FC Tryz.prog f args 6 (AB nt num p Eo (.cst x) (.cst y) E) v 6 (AB nt num p Eo (.cst x) (.cst y) E)):
 FC Tryz.prog f args 6 (AB nt num p Eo fs rs E) v 6 (AB nt num p Eo fs rs E):=by
 refine⟨(h (.int .i64 0) (.int .i64 0)).1,?_⟩
 refine SC.cst (i:=0) (o:=8) (i':=0) (o':=8) (s:=fs) rfl rfl rfl rfl hf rfl rfl λx hx=>?_
 refine SC.cst (i:=0) (o:=9) (i':=0) (o':=9) (s:=rs) rfl rfl rfl rfl hr rfl rfl λy hy=>?_
 exact (h x y).2
theorem DO {a b:Int} (h:iY a b=false):a<=1000/\b<=1000:=by
 unfold iY at h;simp at h;omega
theorem HF {i:Nat} (h:aK p i=false) (ho:(p.getD i dN).op=16):ai p (i+4-2)<=1000/\ai p (i+4-1)<=1000:=by
 unfold aK at h;rw[ho] at h;simp at h;exact DO h
theorem Jh {i:Nat} (h:aK p i=false) (ho:(p.getD i dN).op=17):ai p (i+5-2)<=1000/\ai p (i+5-1)<=1000:=by
 unfold aK at h;rw[ho] at h;simp at h;exact DO h
theorem JK (nt num:Int) (p:List Nd) (Eo:List Nat) (hp:p.length<=2048) (hw:mS p) (hI:pR p) (hO:∀ j,j<p.length->aK p j=false) (hNA:∀ j,j<p.length->jH p j) (hE:EOK p Eo) (N:Nat) (ih:J7 nt num p Eo N):DecP nt num p Eo (N+1):=by
 intro x k i sc E fs hN ha hv hsc hfs;have hi:=At.lt ha;have hx:=At.get ha;have hac:=hv.1.1;have hkV:=hv.2.1;have hkA:=ha.2.2.1;obtain⟨hi1,_⟩:=lX (.inl rfl) ha hv;rw[si];by_cases h10:x.op=10
 ·have hop:(p.getD i dN).op=10:=by rw[hx];exact h10
  rw[h10,uo] at hkV;obtain⟨bl,hz,hbl⟩:=aR [110] k rfl hkV;obtain⟨hb1,hb2⟩:=hbl p (i+1) hkA;have hdl:=dY (p:=p) (num:=num) [110] k rfl hkV
  have hj:=HY (fs:=.row 4 5 fs.length) (rs:=.slc none 0 (some 0)) rfl rfl λx y=>Cn nt num p Eo hw (E.length:Nat) x y (i+1) hi1 sc
  rw[show ((i+1:Nat):Int)=(i:Int)+1 by omega] at hj;unfold fV;rw[if_pos h10];have hjr:= @jP p (i+1) sc;generalize bS p (i+1) sc=J at hj hjr |-;obtain⟨q,ok⟩:=J;cases ok
  ·rw[if_pos rfl]
   refine wW Tryz.func126 ?_
   repeat'(first|exact y0|refine y1 ?_|refine y2 ?_ ?_|refine y4 λh=>?_|refine wX 183 (cf [0,1,2,3,4,5] hj ?_)|refine y3 ?_|exact y5|fail)
   all_goals try omega
   exact Fin.f4 (.inl rfl) rfl rfl rfl rfl rfl rfl rfl
  ·rw[if_neg an]
   have hc:=Cb (fs:=.row 4 5 fs.length) (rs:=.slc none 0 (some 0)) rfl rfl λx y=>Dm nt num p Eo (E.length:Nat) x y E q (hjr rfl)
   generalize eT E q=C at hc |-;obtain⟨c,ok⟩:=C;cases ok
   ·rw[if_pos rfl]
    refine wW Tryz.func126 ?_
    repeat'(first|exact y0|refine y1 ?_|refine y2 ?_ ?_|refine y4 λh=>?_|refine wX 183 (cf [0,1,2,3,4,5] hj ?_)|refine wX 184 (cf [0,1,2,3,4,5] hc ?_)|refine y3 ?_|exact y5|fail)
    all_goals try omega
    exact Fin.f4 (.inl rfl) rfl rfl rfl rfl rfl rfl rfl
   ·rw[if_neg an]
    simp only;rw[hdl];have hd:=ih bl (ak k) (i+1+1) q E fs (by simp only[Z0n] at hz;omega) hb1 hb2.2.1 (hjr rfl) (by simp only[Z0n] at hz;omega);rw[show i+1+[(110:Int)].length+1=i+1+1+1 from rfl];generalize aS p num false (ak k) (i+1+1+1) q E fs=R at hd |-;obtain⟨E2,fs2,e⟩:=R;simp only at hd |-;refine wW Tryz.func126 ?_
    repeat'(first|exact y0|refine y1 ?_|refine y2 ?_ ?_|refine y4 λh=>?_|refine wX 183 (cf [0,1,2,3,4,5] hj ?_)|refine wX 184 (cf [0,1,2,3,4,5] hc ?_)|(refine wX 185 ?_;refine iq [0,1,2,3,4,5] hd ?_ (wr:=[(0,some (fX (E2.length:Nat) nt num p Eo (.row 8 9 fs2.length) (.slc none 0 (some 0)))),(1,some (oB E2)),(2,some (pB E2)),(4,none),(8,mt 8 fs2)]) (k2:=gt) (hle:=by exact⟨VLe.refl _,VLe.of_eq (congrArg nI (by push_cast;omega)),VLe.refl _,trivial⟩))|refine y3 ?_|exact y5|fail)
    all_goals try omega
    exact Fin.fd 8 (.inl rfl) rfl rfl rfl rfl rfl rfl rfl rfl
 unfold fV;rw[if_neg h10];by_cases h16:x.op=16
 ·rw[if_pos h16]
  have hop:(p.getD i dN).op=16:=by rw[hx];exact h16
  have hkV':=hkV;rw[h16,uq] at hkV';obtain⟨bl,hz,hbl⟩:=aR [110,105,105] k rfl hkV';obtain⟨hb1,hb2⟩:=hbl p (i+1) hkA;rw[show i+1+([110,105,105]:List Int).length=i+4 from rfl] at hb1;have hnb:=At.lt hb1;have hac:=HF (hO i hi) hop;have hd:=C3 nt num p Eo hp hw hI hO hNA hE E fs aa i (i+4) bl (ak k) hb1 hb2.2.1 aa hac.1 hac.2 sc hsc _ rfl;unfold ii;generalize dB p num sc (ai p (i+4-2)) (ai p (i+4-1)) (ak k) (i+4+1) E [] 0=R at hd |-;generalize sf i sc fs R=fs2 at hd |-;obtain⟨E2,us,bits,e⟩:=R;simp only at hd |-;refine wW Tryz.func126 ?_
  repeat'(first|exact y0|refine y1 ?_|refine y2 ?_ ?_|refine y4 λh=>?_|(refine wX 186 ?_;refine iq [0,1,2,3,4,5] hd ?_ (wr:=[(0,some (fX (E2.length:Nat) nt num p Eo (.row 7 8 fs2.length) (.slc none 0 (some 0)))),(1,some (oB E2)),(2,some (pB E2)),(4,none),(7,mt 7 fs2)]) (k2:=gt) (hle:=by exact⟨VLe.refl _,VLe.refl _,VLe.of_eq (congrArg nI (by push_cast;omega)),VLe.refl _,trivial⟩))|refine y3 ?_|exact y5|fail)
  all_goals try omega
  exact Fin.fd 7 (.inl rfl) rfl rfl rfl rfl rfl rfl rfl rfl
 rw[if_neg h16];by_cases h17:x.op=17
 ·rw[if_pos h17]
  have hop:(p.getD i dN).op=17:=by rw[hx];exact h17
  have hkV':=hkV;rw[h17,ui] at hkV';obtain⟨bl,hz,hbl⟩:=aR [110,110,105,105] k rfl hkV';obtain⟨hb1,hb2⟩:=hbl p (i+1) hkA;rw[show i+1+([110,110,105,105]:List Int).length=i+5 from rfl] at hb1;have hnb:=At.lt hb1;have hac:=Jh (hO i hi) hop;have hd:=C3 nt num p Eo hp hw hI hO hNA hE E fs aa i (i+5) bl (ak k) hb1 hb2.2.1 aa hac.1 hac.2 sc hsc _ rfl;unfold ii;generalize dB p num sc (ai p (i+5-2)) (ai p (i+5-1)) (ak k) (i+5+1) E [] 0=R at hd |-;generalize sf i sc fs R=fs2 at hd |-;obtain⟨E2,us,bits,e⟩:=R;simp only at hd |-;refine wW Tryz.func126 ?_
  repeat'(first|exact y0|refine y1 ?_|refine y2 ?_ ?_|refine y4 λh=>?_|(refine wX 186 ?_;refine iq [0,1,2,3,4,5] hd ?_ (wr:=[(0,some (fX (E2.length:Nat) nt num p Eo (.row 7 8 fs2.length) (.slc none 0 (some 0)))),(1,some (oB E2)),(2,some (pB E2)),(4,none),(7,mt 7 fs2)]) (k2:=gt) (hle:=by exact⟨VLe.refl _,VLe.refl _,VLe.of_eq (congrArg nI (by push_cast;omega)),VLe.refl _,trivial⟩))|refine y3 ?_|exact y5|fail)
  all_goals try omega
  exact Fin.fd 7 (.inl rfl) rfl rfl rfl rfl rfl rfl rfl rfl
 rw[if_neg h17];have had:=G6 nt num p Eo hp hw E i hi1 sc (.row 4 5 fs.length) (.slc none 0 (some 0)) rfl rfl;have hao:=nu nt Eo num p hp hw E i hi1 sc;generalize bt p num E i sc=A at had hao |-;obtain⟨E2,id,q,e⟩:=A;simp only at had hao |-
 have hop:(p.getD i dN).op=x.op:=by rw[hx]
 by_cases he:e=0
 ·rcases hao with ⟨_,h⟩|⟨_,rfl,hA⟩
  ·exact absurd he h
  subst he;have hqr:=jP hA.join;rw[if_neg an];by_cases hb:x.op=11\/x.op=12
  ·rw[if_pos hb]
   rcases hb with hb|hb
   ·rw[hb,um] at hkV
    rw[hb] at hop;obtain⟨bl,hz,hbl⟩:=aR [115] k rfl hkV;obtain⟨hb1,hb2⟩:=hbl p (i+1) hkA;rw[dY (p:=p) (num:=num) [115] k rfl hkV];have hd:=ih bl (ak k) (i+1+1) q E2 fs (by simp only[Z0n] at hz;omega) hb1 hb2.2.1 hqr (by simp only[Z0n] at hz;omega);rw[show i+1+[(115:Int)].length+1=i+1+1+1 from rfl];generalize aS p num false (ak k) (i+1+1+1) q E2 fs=R at hd |-;obtain⟨E3,fs2,e⟩:=R;simp only at hd |-;refine wW Tryz.func126 ?_
    repeat'(first|exact y0|refine y1 ?_|refine y2 ?_ ?_|refine y4 λh=>?_|refine wX 187 (cf [0,1,2,3,4,5] had ?_)|(refine wX 185 ?_;refine iq [0,1,2,3,4,5] hd ?_ (wr:=[(0,some (fX (E3.length:Nat) nt num p Eo (.row 8 9 fs2.length) (.slc none 0 (some 0)))),(1,some (oB E3)),(2,some (pB E3)),(4,none),(8,mt 8 fs2)]) (k2:=gt) (hle:=by exact⟨VLe.refl _,VLe.of_eq (congrArg nI (by push_cast;omega)),VLe.refl _,trivial⟩))|refine y3 ?_|exact y5|fail)
    all_goals try omega
    exact Fin.fd 8 (.inl rfl) rfl rfl rfl rfl rfl rfl rfl rfl
   ·rw[hb,ul] at hkV
    rw[hb] at hop;obtain⟨bl,hz,hbl⟩:=aR [115,105,105] k rfl hkV;obtain⟨hb1,hb2⟩:=hbl p (i+1) hkA;rw[dY (p:=p) (num:=num) [115,105,105] k rfl hkV];simp only[Z04,Z0e] at hz;have hd:=ih bl (ak k) (i+1+3) q E2 fs aa hb1 hb2.2.1 hqr aa;rw[show i+1+[(115:Int),105,105].length+1=i+1+3+1 from rfl];generalize aS p num false (ak k) (i+1+3+1) q E2 fs=R at hd |-;obtain⟨E3,fs2,e⟩:=R;simp only at hd |-;refine wW Tryz.func126 ?_
    repeat'(first|exact y0|refine y1 ?_|refine y2 ?_ ?_|refine y4 λh=>?_|refine wX 187 (cf [0,1,2,3,4,5] had ?_)|(refine wX 185 ?_;refine iq [0,1,2,3,4,5] hd ?_ (wr:=[(0,some (fX (E3.length:Nat) nt num p Eo (.row 8 9 fs2.length) (.slc none 0 (some 0)))),(1,some (oB E3)),(2,some (pB E3)),(4,none),(8,mt 8 fs2)]) (k2:=gt) (hle:=by exact⟨VLe.refl _,VLe.of_eq (congrArg nI (by push_cast;omega)),VLe.refl _,trivial⟩))|refine y3 ?_|exact y5|fail)
    all_goals try omega
    exact Fin.fd 8 (.inl rfl) rfl rfl rfl rfl rfl rfl rfl rfl
  ·rw[if_neg hb]
   refine wW Tryz.func126 ?_
   repeat'(first|exact y0|refine y1 ?_|refine y2 ?_ ?_|refine y4 λh=>?_|refine wX 187 (cf [0,1,2,3,4,5] had ?_)|refine y3 ?_|exact y5|fail)
   all_goals try omega
   all_goals exact Fin.f4 (.inl rfl) rfl rfl rfl rfl rfl rfl rfl
 ·rcases hao with ⟨rfl,_⟩|⟨h,_⟩
  ·rw[if_pos he]
   refine wW Tryz.func126 ?_
   repeat'(first|exact y0|refine y1 ?_|refine y2 ?_ ?_|refine y4 λh=>?_|refine wX 187 (cf [0,1,2,3,4,5] had ?_)|refine y3 ?_|exact y5|fail)
   all_goals try omega
   all_goals exact Fin.f4 (.inl rfl) rfl rfl rfl rfl rfl rfl rfl
  ·exact absurd h he
end
theorem u9 (nt num:Int) (p:List Nd) (Eo:List Nat) (hp:p.length<=2048) (hw:mS p) (hI:pR p) (hO:∀ j,j<p.length->aK p j=false) (hNA:∀ j,j<p.length->jH p j) (hE:EOK p Eo):∀ N,DecP nt num p Eo N
 |0=>λx k i sc E fs hN=>absurd hN (Z1m _)
 |N+1=>JK nt num p Eo hp hw hI hO hNA hE N (JV nt num p Eo hp hE N (C8 nt num p Eo hp hE N (u9 nt num p Eo hp hw hI hO hNA hE N)))
def x8 (E:List Ent):List Pth->Option Nat
 |[]=>none
 |c::t=>match mp 0 E (aI c) with|some i=>some i|none=>x8 E t
def d7 (E:List Ent) (s nm:By):Option Nat:=if (ah s).2=true/\(ah nm).2=true then x8 E (aL (ah s).1 (ah nm).1) else none
theorem Cg {E:List Ent}:∀ {cs:List Pth} {k:Nat},x8 E cs=some k->k<E.length
 |[],_,h=>by cases h
 |c::t,k,h=>by
  rw[x8] at h
  cases h1:mp 0 E (aI c) with
  |some i=>
   rw[h1] at h;cases h;have:=(kP h1).2.1;omega
  |none=>rw[h1] at h;exact Cg h
theorem ue {E:List Ent} {s nm:By} {k:Nat} (h:d7 E s nm=some k):k<E.length:=by
 unfold d7 at h;split at h
 ·exact Cg h
 ·cases h
theorem kE {s:By} (h:(ah s).2=true):ay (ah s).1=true:=by
 unfold ah dJ eQ at h |-
 repeat' split at h
 all_goals simp_all
 all_goals (rw[if_neg aa];assumption)
theorem HW (nt num:Int) (p:List Nd) (Eo:List Nat) (x y:Value) (E:List Ent) (s nm:By) (hs:s.length<9223372036854775807) (hn:nm.length<9223372036854775807):
 FC Tryz.prog 20 [.s (.ptr (some (0,0))),sV s,sV nm] 6 (AB nt num p Eo (.cst x) (.cst y) E) (.tup [.s (.int .i64 (((d7 E s nm).getD 0:Nat):Int)),.s (.bool (d7 E s nm).isSome)]) 6 (AB nt num p Eo (.cst x) (.cst y) E):=by
 have h1:=fF s hs;have h2:=fF nm hn;have hv:= @kE s;unfold d7;generalize ah s=r1 at h1 hv |-;generalize ah nm=r2 at h2 |-;obtain⟨q1,ok1⟩:=r1;obtain⟨q2,ok2⟩:=r2;refine wW Tryz.func20 ?_;cases ok1
 ·
  repeat'(first|exact y0|refine y1 ?_|refine y2 ?_ ?_|refine y4 λh=>?_|refine wX 48 (pu h1 ?_)|refine y3 ?_|exact y5|fail)
  exact bh
 cases ok2
 ·
  repeat'(first|exact y0|refine y1 ?_|refine y2 ?_ ?_|refine y4 λh=>?_|refine wX 48 (pu h1 ?_)|refine wX 48 (pu h2 ?_)|refine y3 ?_|exact y5|fail)
  exact bh
 simp only[and_self,if_true];have hcd:=w4 q1 q2;have hroot:= @jV q1 q2;have hcl:=l6 q1 q2;obtain⟨hu0,_,hseg,_,_,_⟩:=aJ (hv rfl);simp only at hseg hu0;generalize aL q1 q2=cs at*
 repeat'(first|exact y0|refine y1 ?_|refine y2 ?_ ?_|refine y4 λh=>?_|refine wX 48 (pu h1 ?_)|refine wX 48 (pu h2 ?_)|refine wX 49 (pu hcd ?_)|refine y3 ?_|exact y5|fail)
 refine Ex.inv (σ:=Nat) (λj=>[(33,nI j)]) (λj=>AB nt num p Eo (.cst x) (.cst y) E) (λj=>j<=cs.length/\x8 E (cs.drop j)=x8 E cs) (λj=>cs.length-j) 0 rfl (λ_=>rfl) ⟨Z08 _,rfl⟩ aV ⟨rfl,rfl,rfl,trivial⟩ ?_;rintro j ⟨j1,j2⟩;by_cases hj:j<cs.length
 ·rw[Z0k hj] at j2
  have hg:cs.getD j z0=cs[j]:=by simp[Z00,hj]
  have hrt:(cs.getD j z0).root=true:=by rw[hg];exact hroot _ (Z0s hj)
  have hf:=oO (cs.getD j z0) hrt;rw[<-hg,x8] at j2
  cases hl:mp 0 E (aI (cs.getD j z0)) with
  |none=>
   rw[hl] at j2
   repeat'(first|exact y0|refine y1 ?_|refine y2 ?_ ?_|refine y4 λh=>?_|refine wX 50 (pu hf ?_)|refine RegX.pLk none rfl rfl rfl rfl rfl rfl hl rfl ?_|refine y3 ?_|exact y5|fail)
   all_goals try exact y7
   exact LoopR.same (j+1) ⟨hj,j2⟩ aa rfl aV ⟨rfl,rfl,rfl,trivial⟩ rfl rfl ac
  |some k=>
   rw[hl] at j2;simp only at j2
   repeat'(first|exact y0|refine y1 ?_|refine y2 ?_ ?_|refine y4 λh=>?_|refine wX 50 (pu hf ?_)|refine RegX.pLk (some k) rfl rfl rfl rfl rfl rfl hl rfl ?_|refine y3 ?_|exact y5|fail)
   all_goals try omega
   rw[<-j2];exact bh
 ·have hd:cs.drop j=[]:=by simp;omega
  rw[hd] at j2;simp only[x8] at j2;rw[<-j2]
  repeat'(first|exact y0|refine y1 ?_|refine y2 ?_ ?_|refine y4 λh=>?_|refine y3 ?_|exact y5|fail)
  all_goals exact bh
def fi (p:List Nd) (E:List Ent) (s:By) (i:Nat) (op:Int):Option Nat:=
 match d7 E s (p.getD i dN).str with
 |some k=>if (E.getD k eZ).op=op then some k else none
 |none=>none
abbrev rL (nt num:Int) (p:List Nd) (Eo:List Nat) (fc:S) (E:List Ent) (rs:List Int):Hp:=[(0,some (fX (E.length:Nat) nt num p Eo fc (.row 4 5 rs.length))),(1,some (oB E)),(2,some (pB E)),(4,jv 4 rs)]
abbrev Hz (nt num:Int) (p:List Nd) (Eo:List Nat) (fc:S) (E:List Ent) (rs:List Int):Hp:=[(0,some (fX (E.length:Nat) nt num p Eo fc (.row 6 7 rs.length))),(1,some (oB E)),(2,some (pB E)),(4,none),(6,jv 6 rs)]
abbrev JD (l:List Int):List S:=l.map λz=>S.int .i64 z
theorem BN {nt num:Int} {p:List Nd} {Eo:List Nat} {E:List Ent} {rs:List Int} {x:Value}:eV 8 (Hz nt num p Eo (.cst x) E rs)=true:=by
 unfold Hz jv;generalize List.map _ rs=cg
 cases cg<;>rfl
section
variable {P:Program} {fn:Func} {env:List V} {nt num:Int} {p:List Nd} {Eo:List Nat} {E:List Ent} {z z':Int} {b b':Bool} {e:Exit} {M:Hp} {m:Nat} {rs rs':List Int} {x:Value}
theorem Fin.rd (c:Nat) (hx:e=.ret\/e=.normal) (h0:lk M 0=some (fX (E.length:Nat) nt num p Eo (.cst x) (.row c (c+1) rs.length))) (h1:lk M 1=some (oB E)) (h2:lk M 2=some (pB E)) (h4:lk M c=jv c rs)
 (hr:fU P fn env M=some (.tup [.s (.int .i64 z'),.s (.bool b')])) (hn:ce (List.range 6++[c,c+1])=true) (hz:z'=z) (hb:b'=b) (hf:rs=rs'):Fin P fn 6 (.tup [.s (.int .i64 z),.s (.bool b)]) 8 (Hz nt num p Eo (.cst x) E rs') e env m M:=by
 subst hz;subst hf;subst hb;exact⟨hx,_,[c,c+1],VLe.refl _,EndOK.by hr ⟨h0,h1,h2,MemP.op h4 trivial⟩ rfl BN rfl hn⟩
theorem Fin.r4 (hx:e=.ret\/e=.normal) (h0:lk M 0=some (fX (E.length:Nat) nt num p Eo (.cst x) (.row 4 5 rs.length))) (h1:lk M 1=some (oB E)) (h2:lk M 2=some (pB E)) (h4:lk M 4=jv 4 rs)
 (hr:fU P fn env M=some (.tup [.s (.int .i64 z'),.s (.bool b')])) (hz:z'=z) (hb:b'=b) (hf:rs=rs'):Fin P fn 6 (.tup [.s (.int .i64 z),.s (.bool b)]) 8 (Hz nt num p Eo (.cst x) E rs') e env m M:=by
 subst hz;subst hf;subst hb;refine⟨hx,_,[4,5],VLe.refl _,EndOK.move hr ⟨h0,h1,h2,MemP.op h4 trivial⟩ rfl BN rfl ?_ ?_⟩
 ·unfold Hz jv
  generalize List.map _ rs=cg
  cases cg<;>rfl
 ·unfold Hz jv
  generalize List.map _ rs=cg
  cases cg<;>rfl
end
theorem wH (nt num:Int) (p:List Nd) (Eo:List Nat) (hw:mS p) (x:Value) (E:List Ent) (rs:List Int) (hrs:rs.length<=100000) (s:By) (hs:s.length<9223372036854775807) (i:Nat) (hi:i<p.length) (op:Int):
 FC Tryz.prog 127 [.s (.ptr (some (0,0))),sV s,nI i,nI op] 6 (rL nt num p Eo (.cst x) E rs) (.tup [.s (.int .i64 (((fi p E s i op).getD 0:Nat):Int)),.s (.bool (fi p E s i op).isSome)]) 8 (Hz nt num p Eo (.cst x) E (rs++(fi p E s i op).toList.map λ(n:Nat)=>(n:Int))):=by
 have hk:=Cb (fs:=.cst x) (rs:=.row 4 5 rs.length) rfl rfl λa b=>HW nt num p Eo a b E s (p.getD i dN).str hs (qI hw i)
 have hlt:= @ue E s (p.getD i dN).str;unfold fi;generalize d7 E s (p.getD i dN).str=r at hk hlt |-;refine wW Tryz.func127 ?_
 cases r with
 |none=>
  repeat'(first|exact y0|refine y1 ?_|refine y2 ?_ ?_|refine y4 λh=>?_|refine wX 20 (cf [0,1,2,3,4,5] hk ?_)|refine y3 ?_|exact y5|fail)
  exact Fin.r4 (.inl rfl) rfl rfl rfl rfl rfl rfl rfl (Z0u _).symm
 |some k=>
  have hk2:=hlt rfl
  have hsz1:(Tryz.prog.types[3]).size=1:=by kernel_rfl
  have hby1:(Tryz.prog.types[3]).bytes=8:=by kernel_rfl
  simp only;by_cases ho:(E.getD k eZ).op=op
  ·rw[if_pos ho]
   repeat'(first|exact y0|refine y1 ?_|refine y2 ?_ ?_|refine y4 λh=>?_|refine wX 20 (cf [0,1,2,3,4,5] hk ?_)|refine RegX.oLk k rfl rfl rfl hk2 rfl rfl rfl rfl rfl ?_|refine RegX.apr (i:=4) (g:=5) (m:=rs.length) (w:=1) (cs:=JD rs) (foot:=[6]) (k:=1) (add:=[.int .i64 (k:Int)]) rfl rfl (by simp[JD]) rfl rfl rfl rfl rfl rfl rfl hsz1 ac rfl ⟨Z02 _,rfl⟩ ac an rfl (by rw[hby1];omega) aa rfl ?_|refine y3 ?_|exact y5|fail)
   all_goals try omega
   refine Fin.rd 7 (.inl rfl) ?_ rfl rfl ?_ rfl rfl rfl rfl rfl
   ·rw[Z03];rfl
   ·show eI _ _ _ _=eI _ _ _ _
    rw[Z0d];rfl
  ·rw[if_neg ho]
   repeat'(first|exact y0|refine y1 ?_|refine y2 ?_ ?_|refine y4 λh=>?_|refine wX 20 (cf [0,1,2,3,4,5] hk ?_)|refine RegX.oLk k rfl rfl rfl hk2 rfl rfl rfl rfl rfl ?_|refine y3 ?_|exact y5|fail)
   all_goals try omega
   exact Fin.r4 (.inl rfl) rfl rfl rfl rfl rfl rfl rfl (Z0u _).symm
def rk (sp ba ln:Int):Bool:=if ln<1\/1048576<ln then false else if sp=0\/sp=1 then true else if sp=3 then decide (ba<=256/\ba+ln<=256) else false
theorem Hd (sp ba ln:Int) (h0:0<=ba) (h1:ba<=9223372036854775808) (h2:0<=ln) (h3:ln<=1099511627776):FC Tryz.prog 188 [.agg [.int .i64 sp,.int .u64 ba,.int .u64 ln]] 0 [] (bV (rk sp ba ln)) 0 []:=by
 refine wW Tryz.func188 ?_;unfold rk
 repeat'(first|exact y0|refine y1 ?_|refine y2 ?_ ?_|refine y4 λh=>?_|refine Fin.bool (.inl rfl) rfl ?_|refine y3 ?_|exact y5|fail)
 all_goals (repeat (first|rw[if_pos aa]|rw[if_neg aa]))<;>first
  |rfl
  |(symm;apply decide_eq_true;omega)
  |(symm;apply decide_eq_false;omega)
theorem xq {a b:Int} (h0:0<=a) (h1:a<18446744073709551616) (hb:0<=b):IntKind.u64.wrap (a.tdiv b)=a.tdiv b:=by
 have:=Z5r h0 hb;have:=Z5l b h0;exact aj aa aa
def eW (sp ba ln bit len wid upd:Int):Bool:=
 if rk sp ba ln=false then false
 else if ¬(wid=1\/wid=2\/wid=4\/wid=8) then false
 else if (sp=3/\wid≠1)\/ba.tmod wid≠0 then false
 else if upd<0\/2<upd\/bit<0\/len<1\/256<len then false
 else decide ((bit+len-1).tdiv (8*wid)<ln.tdiv wid)
theorem xv (sp ba ln bit len wid upd idx dat:Int) (h0:0<=ba) (h1:ba<=9223372036854775808) (h2:0<=ln) (h3:ln<=1099511627776) (h4:bit<=1099511627776):
 FC Tryz.prog 129 [.agg [.int .i64 sp,.int .u64 ba,.int .u64 ln,.int .i64 bit,.int .i64 len,.int .i64 wid,.int .i64 upd,.int .i64 idx,.int .i64 dat]] 0 [] (bV (eW sp ba ln bit len wid upd)) 0 []:=by
 have hr:=Hd sp ba ln h0 h1 h2 h3
 have hu:∀ w:Int,wid=w->(w=1\/w=2\/w=4\/w=8)->FC Tryz.prog 189 [.agg [.int .i64 sp,.int .u64 ba,.int .u64 ln,.int .i64 bit,.int .i64 len,.int .i64 w,.int .i64 upd,.int .i64 idx,.int .i64 dat]] 0 [] (.s (.int .u64 (8*w))) 0 []:=by
  rintro w rfl hw;refine wW Tryz.func189 ?_
  repeat'(first|exact y0|refine y1 ?_|refine y2 ?_ ?_|refine y4 λh=>?_|exact aj aa aa|refine Fin.plain (.inl rfl) rfl ?_ rfl|refine y3 ?_|exact y5|fail)
  all_goals first
   |rfl
   |exact aj aa aa
   |omega
 unfold eW;refine wW Tryz.func129 ?_
 cases hb:rk sp ba ln<;>rw[hb] at hr
 ·
  repeat'(first|exact y0|refine y1 ?_|refine y2 ?_ ?_|refine y4 λh=>?_|refine wX 188 (bo hr ?_)|refine Fin.bool (.inl rfl) rfl ?_|refine y3 ?_|exact y5|fail)
 rw[if_neg an];by_cases hw:wid=1\/wid=2\/wid=4\/wid=8
 ·rw[if_neg (λh=>h hw)]
  have hu:=hu wid rfl hw
  repeat'(first|exact y0|refine y1 ?_|refine y2 ?_ ?_|refine y4 λh=>?_|refine wX 188 (bo hr ?_)|refine wX 189 (pu hu ?_)|exact xq aa aa aa|refine Fin.bool (.inl rfl) rfl ?_|refine y3 ?_|exact y5|fail)
  all_goals (repeat (first|rw[if_pos aa]|rw[if_neg aa]))<;>first
   |rfl
   |(symm;apply decide_eq_true;assumption)
   |(symm;apply decide_eq_false;assumption)
 ·rw[if_pos hw]
  repeat'(first|exact y0|refine y1 ?_|refine y2 ?_ ?_|refine y4 λh=>?_|refine wX 188 (bo hr ?_)|refine Fin.bool (.inl rfl) rfl ?_|refine y3 ?_|exact y5|fail)
section
variable {P:Program} {b:Nat} {ops:Array Oper} {d:Bool} {acc:List Row} {os:List Oper} {env:List V} {n:Nat} {L:Hp} {R:Post}
variable {dst:Option Tmp} {x ix yv:Operand} {tx kt et:TypeId} {t:TypeId} {pos:String} {af:Array Edge} {gd:Option (Nat×Bool)} {i:Nat}
theorem RegX.oLkE {E:List Ent} {z:Int} {r0:Bool} (j:Nat) (X:Ent) (hX:E.getD j eZ=X) (hx:ev env x=.s (.map (some i))) (hix:ev env ix=.s (.int .i64 z)) (hz:z=j) (hj:j<E.length) (hl:lk L i=some {oB E with ro:=r0}) (hty:P.underlying tx=some (.map kt et)) (hd:P.underlying kt=some (.int .i64)) (h0:jB P et true=some (io eZ))
 (hwt:aY ops env ⟨dst,.lookup tx x ix false,t,pos,af,gd⟩=some true)
 (kk:RegX P ops d (aG d ⟨dst,.lookup tx x ix false,t,pos,af,gd⟩ [i] [] acc) os (a_ env dst (.agg (io X))) n L R):
 RegX P ops d acc (⟨dst,.lookup tx x ix false,t,pos,af,gd⟩::os) env n L R:=by
 subst hX;exact RegX.oLk j hx hix hz hj hl hty hd h0 hwt kk
end
def tZ:Tb:=⟨[],[]⟩
structure RegAt (T:List Tb) (x:Ent) (sp ba ln:Int):Prop where
 at_:∃ (j nd:Nat),x.tab=1+(j:Int)/\j<T.length/\x.node=nd/\(nd+4<(T.getD j tZ).p.length/\nd<=4096)/\sp=((T.getD j tZ).p.getD (nd+2) dN).int/\ba=((T.getD j tZ).p.getD (nd+3) dN).int/\ln=((T.getD j tZ).p.getD (nd+4) dN).int
 s0:0<=sp
 s1:sp<=1000
 b0:0<=ba
 b1:ba<=9223372036854775808
 l0:0<=ln
 l1:ln<=1048576
theorem tL (nt num:Int) (p:List Nd) (Eo:List Nat) (x y:Value) (E:List Ent) (T:List Tb) (k:Nat) (hk:k<E.length) (sp ba ln:Int) (hr:RegAt T (E.getD k eZ) sp ba ln):
 FC Tryz.prog 128 [.s (.ptr (some (0,0))),nI k] 6 [(0,some (fX (E.length:Nat) nt num p Eo (.cst x) (.cst y))),(1,some (oB E)),(3,some (tB T))] (.agg [.int .i64 sp,.int .u64 ba,.int .u64 ln]) 6 [(0,some (fX (E.length:Nat) nt num p Eo (.cst x) (.cst y))),(1,some (oB E)),(3,some (tB T))]:=by
 obtain⟨⟨j,nd,e1,e2,e3,⟨e4,e4'⟩,e5,e6,e7⟩,s0,s1,b0,b1,l0,l1⟩:=hr;have wv:IntKind.i64.wrap ((T.getD j tZ).p.getD (nd+2) dN).int=((T.getD j tZ).p.getD (nd+2) dN).int:=ae aa aa;subst e5;subst e6;subst e7;refine wW Tryz.func128 ?_;generalize hx:E.getD k eZ=X at*;obtain⟨a1,a2,a3,a4,a5,c1,c2,c3,c4,c5,c6,c7,c8,c9⟩:=X;simp only at e1 e3;subst e1;subst e3
 repeat'(first|exact y0|refine y1 ?_|refine y2 ?_ ?_|refine y4 λh=>?_|refine RegX.oLkE k _ hx rfl rfl rfl hk rfl rfl rfl rfl rfl ?_|refine RegX.tLk j rfl rfl rfl e2 rfl rfl rfl rfl rfl ?_|exact wv|refine y3 ?_|exact y5|fail)
 all_goals first
  |exact wv
  |(show IntKind.i64.wrap ((nd:Int)+2)=(nd:Int)+2;exact ae aa aa)
  |(show IntKind.i64.wrap ((nd:Int)+3)=(nd:Int)+3;exact ae aa aa)
  |(show IntKind.i64.wrap ((nd:Int)+4)=(nd:Int)+4;exact ae aa aa)
  |(show nd+2<(T.getD j tZ).p.length;omega)
  |(show nd+3<(T.getD j tZ).p.length;omega)
  |(show nd+4<(T.getD j tZ).p.length;omega)
  |exact bh
section
variable {E:List Ent} {p:List Nd} {j:Nat}
def vJ (x:Ent) (sp ba ln idx dat:Int):Ent:={x with sp:=sp,ba:=ba,ln:=ln,idx:=idx,dat:=dat}
def eX (sp ba ln idx dat:Int):List Int->List Ent->List Ent×Int
 |[],E=>(E,0)
 |u::us,E=>
  if eW sp ba ln (E.getD u.toNat eZ).bit (E.getD u.toNat eZ).len (E.getD u.toNat eZ).wid (E.getD u.toNat eZ).upd=true
  then eX sp ba ln idx dat us (E.set u.toNat (vJ (E.getD u.toNat eZ) sp ba ln idx dat))
  else (E,1)
def bT (T:List Tb) (x:Ent) (o:Nat):Int:=((T.getD (x.tab-1).toNat tZ).p.getD (x.node.toNat+o) dN).int
def ot (r:Option Nat):List Int:=r.toList.map λ(n:Nat)=>(n:Int)
def gX (p:List Nd) (T:List Tb) (d:Fd) (i:Nat) (E:List Ent) (rs:List Int):List Ent×List Int×Int:=
 if (p.getD i dN).op=16 then
  match fi p E d.scope (i+1) 15 with
  |none=>(E,rs,6)
  |some k=>((eX (bT T (E.getD k eZ) 2) (bT T (E.getD k eZ) 3) (bT T (E.getD k eZ) 4) (-1) (-1) d.units E).1,rs++[(k:Int)],(eX (bT T (E.getD k eZ) 2) (bT T (E.getD k eZ) 3) (bT T (E.getD k eZ) 4) (-1) (-1) d.units E).2)
 else
  match fi p E d.scope (i+1) 18,fi p E d.scope (i+2) 18 with
  |some a,some c=>((eX 0 0 ((d.bits+8*ai p (i+3)-1).tdiv (8*ai p (i+3))*ai p (i+3)) a c d.units E).1,rs++[(a:Int)]++[(c:Int)],(eX 0 0 ((d.bits+8*ai p (i+3)-1).tdiv (8*ai p (i+3))*ai p (i+3)) a c d.units E).2)
  |a,c=>(E,rs++ot a++ot c,6)
abbrev hL (nt num:Int) (p:List Nd) (Eo:List Nat) (fc:S) (T:List Tb) (E:List Ent) (rs:List Int):Hp:=[(0,some (fX (E.length:Nat) nt num p Eo fc (.row 4 5 rs.length))),(1,some (oB E)),(2,some (pB E)),(3,some (tB T)),(4,jv 4 rs)]
abbrev JH (nt num:Int) (p:List Nd) (Eo:List Nat) (fc:S) (T:List Tb) (E:List Ent) (rs:List Int):Hp:=[(0,some (fX (E.length:Nat) nt num p Eo fc (.row 6 7 rs.length))),(1,some (oB E)),(2,some (pB E)),(3,some (tB T)),(4,none),(6,jv 6 rs)]
theorem HG {nt num:Int} {Eo:List Nat} {T:List Tb} {rs:List Int} {x:Value}:eV 8 (JH nt num p Eo (.cst x) T E rs)=true:=by
 unfold JH jv;generalize List.map _ rs=cg
 cases cg<;>rfl
theorem iI {nt num:Int} {Eo:List Nat} {rs:List Int} {x:Value}:eV 6 (rL nt num p Eo (.cst x) E rs)=true:=by
 unfold rL jv;generalize List.map _ rs=cg
 cases cg<;>rfl
section
variable {P:Program} {fn:Func} {env:List V} {nt num:Int} {p:List Nd} {Eo:List Nat} {T:List Tb} {E:List Ent} {z z':Int} {e:Exit} {M:Hp} {m:Nat} {rs rs':List Int} {x:Value}
theorem Fin.sd (c:Nat) (hx:e=.ret\/e=.normal) (h0:lk M 0=some (fX (E.length:Nat) nt num p Eo (.cst x) (.row c (c+1) rs.length))) (h1:lk M 1=some (oB E)) (h2:lk M 2=some (pB E)) (h3:lk M 3=some (tB T)) (h4:lk M c=jv c rs)
 (hr:fU P fn env M=some (.s (.int .i64 z'))) (hn:ce (List.range 6++[c,c+1])=true) (hz:z'=z) (hf:rs=rs'):Fin P fn 6 (.s (.int .i64 z)) 8 (JH nt num p Eo (.cst x) T E rs') e env m M:=by
 subst hz;subst hf;exact⟨hx,_,[c,c+1],VLe.refl _,EndOK.by hr ⟨h0,h1,h2,h3,MemP.op h4 trivial⟩ rfl HG rfl hn⟩
end
theorem oV (a:Int) (s:By) (u:List Int) (b:Int):lj ⟨a,s,u,b⟩=[.int .i64 a,.str s,Fr u,.int .i64 b]:=rfl
theorem lP {s:By} {i:Nat} {op:Int} {k:Nat} (h:fi p E s i op=some k):k<E.length/\(E.getD k eZ).op=op:=by
 unfold fi at h
 cases h1:d7 E s (p.getD i dN).str with
 |none=>rw[h1] at h;cases h
 |some j=>
  rw[h1] at h;simp only at h;split at h
  ·cases h;exact⟨ue h1,‹_›⟩
  ·cases h
theorem Bz (nt num:Int) (p:List Nd) (Eo:List Nat) (x:Value) (s:S) (hs:ya s=false) (E:List Ent) (T:List Tb) (k:Nat) (hk:k<E.length) (sp ba ln:Int) (hr:RegAt T (E.getD k eZ) sp ba ln):
 FC Tryz.prog 128 [.s (.ptr (some (0,0))),nI k] 6 [(0,some (fX (E.length:Nat) nt num p Eo (.cst x) s)),(1,some (oB E)),(3,some (tB T))] (.agg [.int .i64 sp,.int .u64 ba,.int .u64 ln]) 6 [(0,some (fX (E.length:Nat) nt num p Eo (.cst x) s)),(1,some (oB E)),(3,some (tB T))]:=
 ⟨(tL nt num p Eo x x E T k hk sp ba ln hr).1,SC.cst (i:=0) (o:=9) (i':=0) (o':=9) (s:=s) rfl rfl rfl rfl hs rfl rfl λy hy=>(tL nt num p Eo x y E T k hk sp ba ln hr).2⟩
theorem AN {l:List Int} (h:j<l.length):l.getD j 0∈l:=by
 rw[Z00,Z01 h];exact Z0s h
theorem xy {l:List Int} (h:j<l.length):l.drop j=l.getD j 0::l.drop (j+1):=by
 rw[Z0k h,Z00,Z01 h];rfl
theorem BI (E:List Ent) (j:Nat) (a b c d e:Int):pB (E.set j (vJ (E.getD j eZ) a b c d e))=pB E:=by
 unfold pB;rw[Z18,r9 E 0 j _ (λx hx=>by rw[Z00,hx];rfl)]
theorem yJ {a b c d e N:Int} (h:∀ k,(E.getD k eZ).bit<=N) (k:Nat):((E.set j (vJ (E.getD j eZ) a b c d e)).getD k eZ).bit<=N:=by
 rw[Z00,Z1i];split
 ·split
  ·rename_i e1 _;subst e1;exact h j
  ·exact h E.length|>λ_=>by have:=h (E.length);rw[Z00,Z0b (Z02 _)] at this;exact this
 ·rw[<-Z00];exact h k
theorem zo (nt num:Int) (p:List Nd) (Eo:List Nat) (hw:mS p) (hI:pR p) (x:Value) (T:List Tb) (E:List Ent) (rs:List Int) (hrs:rs.length<=50000) (d:Fd) (i:Nat) (hi:i+3<p.length) (hp:p.length<=2048) (hdn:d.node=i) (hds:d.scope.length<9223372036854775807) (hdu:∀ u∈d.units,0<=u/\u<E.length) (hul:d.units.length<=2048) (hb0:0<=d.bits) (hb1:d.bits<=20000000000)
 (hwd:(p.getD i dN).op≠16->1<=ai p (i+3)/\ai p (i+3)<=8) (hrg:∀ k,k<E.length->(E.getD k eZ).op=15->RegAt T (E.getD k eZ) (bT T (E.getD k eZ) 2) (bT T (E.getD k eZ) 3) (bT T (E.getD k eZ) 4)) (hbt:∀ k,(E.getD k eZ).bit<=1099511627776) (R:List Ent×List Int×Int) (hR:gX p T d i E rs=R):
 FC Tryz.prog 70 [.s (.ptr (some (0,0))),.agg (lj d)] 6 (hL nt num p Eo (.cst x) T E rs) (.s (.int .i64 R.2.2)) 8 (JH nt num p Eo (.cst x) T R.1 R.2.1):=by
 obtain⟨dn,ds,du,db⟩:=d;simp only at hdn hds hdu hul hb0 hb1;subst hdn;unfold gX at hR;by_cases h16:(p.getD i dN).op=16
 ·rw[if_pos h16] at hR
  simp only at hR;have hf:=wH nt num p Eo hw x E rs aa ds hds (i+1) aa 15;rw[show ((i+1:Nat):Int)=(i:Int)+1 by omega] at hf;generalize hfn:fi p E ds (i+1) 15=r at hf hR
  cases r with
  |none=>
   simp only at hR;subst hR
   dsimp only
   rw[oV];refine wW Tryz.func70 ?_
   repeat'(first|exact y0|refine y1 ?_|refine y2 ?_ ?_|refine y4 λh=>?_|(refine wX 127 ?_;refine iq [0,1,2,3,4,5] hf ?_ (wr:=[(0,some (fX (E.length:Nat) nt num p Eo (.cst x) (.row 8 9 (rs++[]).length))),(1,some (oB E)),(2,some (pB E)),(4,none),(8,jv 8 (rs++[]))]) (k2:=iI))|refine y3 ?_|exact y5|fail)
   all_goals try exact y7
   exact Fin.sd 8 (.inl rfl) rfl rfl rfl rfl rfl rfl rfl rfl (Z0u _)
  |some k=>
   obtain⟨hk,hk15⟩:=lP hfn;have hrk:=hrg k hk hk15;have hreg:=Bz nt num p Eo x (.row 4 5 (rs++[(k:Int)]).length) rfl E T k hk _ _ _ hrk;simp only at hR
   have hrl:0<=bT T (E.getD k eZ) 4/\bT T (E.getD k eZ) 4<=1048576:=⟨hrk.l0,hrk.l1⟩
   have hrb:0<=bT T (E.getD k eZ) 3/\bT T (E.getD k eZ) 3<=9223372036854775808:=⟨hrk.b0,hrk.b1⟩
   generalize bT T (E.getD k eZ) 2=sp at*;generalize bT T (E.getD k eZ) 3=ba at*;generalize bT T (E.getD k eZ) 4=ln at*;generalize hU:eX sp ba ln (-1) (-1) du E=U at hR;subst hR
   dsimp only
   rw[oV];refine wW Tryz.func70 ?_
   repeat'(first|exact y0|refine y1 ?_|refine y2 ?_ ?_|refine y4 λh=>?_|(refine wX 127 ?_;refine iq [0,1,2,3,4,5] hf ?_ (wr:=[(0,some (fX (E.length:Nat) nt num p Eo (.cst x) (.row 8 9 (rs++[(k:Int)]).length))),(1,some (oB E)),(2,some (pB E)),(4,none),(8,jv 8 (rs++[(k:Int)]))]) (k2:=iI))|refine wX 128 (cf [0,1,2,3,8,9] hreg ?_)|refine y3 ?_|exact y5|fail)
   all_goals try exact y7
   refine Ex.inv (σ:=Nat×List Ent) (λq=>[(98,nI q.1)]) (λq=>[(0,some (fX (q.2.length:Nat) nt num p Eo (.cst x) (.row 8 9 (rs++[(k:Int)]).length))),(1,some (oB q.2)),(2,some (pB q.2)),(3,some (tB T)),(7,some {cells:=[.int .i64 sp,.int .u64 ba,.int .u64 ln],ty:=82}),(8,jv 8 (rs++[(k:Int)]))]) (λq=>q.1<=du.length/\q.2.length=E.length/\(∀ k,(q.2.getD k eZ).bit<=1099511627776)/\eX sp ba ln (-1) (-1) (du.drop q.1) q.2=U) (λq=>du.length-q.1) (0,E) rfl (λ_=>rfl) ⟨Z08 _,rfl,hbt,hU⟩ aV ⟨rfl,rfl,rfl,rfl,rfl,SubP.op rfl trivial⟩ ?_;rintro⟨j,E1⟩ ⟨j1,j2,j3,j4⟩;simp only at j1 j2 j3 j4 |-;by_cases hj:j<du.length
   ·have hu:=hdu (du.getD j 0) (AN hj)
    rw[xy hj] at j4;obtain⟨n,hn⟩:=Z2a hu.1;have hn':(du.getD j 0).toNat=n:=aa;have hv:=xv sp ba ln (E1.getD n eZ).bit (E1.getD n eZ).len (E1.getD n eZ).wid (E1.getD n eZ).upd (-1) (-1) hrb.1 hrb.2 hrl.1 aa (j3 n);rw[eX,hn'] at j4
    cases hvb:eW sp ba ln (E1.getD n eZ).bit (E1.getD n eZ).len (E1.getD n eZ).wid (E1.getD n eZ).upd with
    |false=>
     rw[hvb] at j4 hv;rw[if_neg an] at j4;subst j4
     repeat'(first|exact y0|refine y1 ?_|refine y2 ?_ ?_|refine y4 λh=>?_|refine wX 129 (bo hv ?_)|refine RegX.oLk n rfl rfl hn aa rfl rfl rfl rfl rfl ?_|refine y3 ?_|exact y5|fail)
     all_goals try exact y7
     exact Fin.sd 8 (.inl rfl) rfl rfl rfl rfl rfl rfl rfl rfl rfl
    |true=>
     rw[hvb] at j4 hv;rw[if_pos rfl] at j4
     repeat'(first|exact y0|refine y1 ?_|refine y2 ?_ ?_|refine y4 λh=>?_|refine wX 129 (bo hv ?_)|refine RegX.oLk n rfl rfl hn aa rfl rfl rfl rfl rfl ?_|refine RegX.oUpd n (vJ (E1.getD n eZ) sp ba ln (-1) (-1)) rfl rfl hn aa (VLe.refl _) rfl rfl rfl rfl ?_|refine y3 ?_|exact y5|fail)
     all_goals try exact y7
     have hls:= @Z18 _ E1 n (vJ (E1.getD n eZ) sp ba ln (-1) (-1));refine LoopR.same (j+1,E1.set n (vJ (E1.getD n eZ) sp ba ln (-1) (-1))) ⟨by simp only;omega,by simp only[hls];exact j2,yJ j3,j4⟩ (by simp only;omega) rfl aV ⟨?_,rfl,?_,rfl,rfl,SubP.op rfl trivial⟩ rfl ?_ ac
     ·simp only[hls];rfl
     ·simp only[BI];rfl
     ·unfold jv
      generalize List.map _ (rs++[(k:Int)])=cu
      cases cu<;>rfl
   ·have hd:du.drop j=[]:=by simp;omega
    rw[hd] at j4;simp only[eX] at j4;subst j4
    repeat'(first|exact y0|refine y1 ?_|refine y2 ?_ ?_|refine y4 λh=>?_|refine y3 ?_|exact y5|fail)
    all_goals exact Fin.sd 8 (.inl rfl) rfl rfl rfl rfl rfl rfl rfl rfl rfl
 ·rw[if_neg h16] at hR
  obtain⟨w1,w8⟩:=hwd h16;have hf1:=wH nt num p Eo hw x E rs aa ds hds (i+1) aa 18;rw[show ((i+1:Nat):Int)=(i:Int)+1 by omega] at hf1;generalize hfn1:fi p E ds (i+1) 18=r1 at hf1 hR;have hf2:=wH nt num p Eo hw x E (rs++ot r1) (by unfold ot;cases r1<;>simp<;>omega) ds hds (i+2) aa 18;rw[show ((i+2:Nat):Int)=(i:Int)+2 by omega] at hf2;generalize hfn2:fi p E ds (i+2) 18=r2 at hf2 hR
  cases r1 with
  |none=>
   dsimp only at hR
   subst hR
   dsimp only
   rw[oV];refine wW Tryz.func70 ?_
   repeat'(first|exact y0|refine y1 ?_|refine y2 ?_ ?_|refine y4 λh=>?_|(refine wX 127 ?_;refine iq [0,1,2,3,4,5] hf1 ?_ (wr:=[(0,some (fX (E.length:Nat) nt num p Eo (.cst x) (.row 8 9 (rs++[]).length))),(1,some (oB E)),(2,some (pB E)),(4,none),(8,jv 8 (rs++[]))]) (k2:=iI))|(refine wX 127 ?_;refine iq [0,1,2,3,8,9] hf2 ?_ (wr:=[(0,some (fX (E.length:Nat) nt num p Eo (.cst x) (.row 10 11 (rs++[]++ot r2).length))),(1,some (oB E)),(2,some (pB E)),(8,none),(10,jv 10 (rs++[]++ot r2))]) (k2:=iI))|refine y3 ?_|exact y5|fail)
   all_goals try exact y7
   exact Fin.sd 10 (.inl rfl) rfl rfl rfl rfl rfl rfl rfl rfl rfl
  |some a=>
  cases r2 with
  |none=>
   dsimp only at hR
   subst hR
   dsimp only
   rw[oV];refine wW Tryz.func70 ?_
   repeat'(first|exact y0|refine y1 ?_|refine y2 ?_ ?_|refine y4 λh=>?_|(refine wX 127 ?_;refine iq [0,1,2,3,4,5] hf1 ?_ (wr:=[(0,some (fX (E.length:Nat) nt num p Eo (.cst x) (.row 8 9 (rs++[(a:Int)]).length))),(1,some (oB E)),(2,some (pB E)),(4,none),(8,jv 8 (rs++[(a:Int)]))]) (k2:=iI))|(refine wX 127 ?_;refine iq [0,1,2,3,8,9] hf2 ?_ (wr:=[(0,some (fX (E.length:Nat) nt num p Eo (.cst x) (.row 10 11 (rs++[(a:Int)]++[]).length))),(1,some (oB E)),(2,some (pB E)),(8,none),(10,jv 10 (rs++[(a:Int)]++[]))]) (k2:=iI))|refine y3 ?_|exact y5|fail)
   all_goals try exact y7
   exact Fin.sd 10 (.inl rfl) rfl rfl rfl rfl rfl rfl rfl rfl rfl
  |some c=>
   dsimp only at hR
   unfold ai at w1 w8 hR;have hd0:0<=(db+8*(p.getD (i+3) dN).int-1).tdiv (8*(p.getD (i+3) dN).int):=Z5r aa aa;have hd1:(db+8*(p.getD (i+3) dN).int-1).tdiv (8*(p.getD (i+3) dN).int)<=db+8*(p.getD (i+3) dN).int-1:=Z5l _ aa;have hl0:0<=(db+8*(p.getD (i+3) dN).int-1).tdiv (8*(p.getD (i+3) dN).int)*(p.getD (i+3) dN).int:=Z5y hd0 aa
   have hl1:(db+8*(p.getD (i+3) dN).int-1).tdiv (8*(p.getD (i+3) dN).int)*(p.getD (i+3) dN).int<=1099511627776:=by
    have:=Int.mul_le_mul hd1 w8 aa aa;omega
   have wv1:IntKind.i64.wrap (p.getD (i+3) dN).int=(p.getD (i+3) dN).int:=ae aa aa;have wv2:IntKind.i64.wrap (8*(p.getD (i+3) dN).int)=8*(p.getD (i+3) dN).int:=ae aa aa;have wv3:IntKind.i64.wrap (db+8*(p.getD (i+3) dN).int)=db+8*(p.getD (i+3) dN).int:=ae aa aa;have wv4:IntKind.i64.wrap (db+8*(p.getD (i+3) dN).int-1)=db+8*(p.getD (i+3) dN).int-1:=ae aa aa;have wv5:IntKind.i64.wrap ((db+8*(p.getD (i+3) dN).int-1).tdiv (8*(p.getD (i+3) dN).int))=(db+8*(p.getD (i+3) dN).int-1).tdiv (8*(p.getD (i+3) dN).int):=ae aa aa;have wv6:IntKind.i64.wrap ((db+8*(p.getD (i+3) dN).int-1).tdiv (8*(p.getD (i+3) dN).int)*(p.getD (i+3) dN).int)=(db+8*(p.getD (i+3) dN).int-1).tdiv (8*(p.getD (i+3) dN).int)*(p.getD (i+3) dN).int:=ae aa aa;have wv7:IntKind.u64.wrap ((db+8*(p.getD (i+3) dN).int-1).tdiv (8*(p.getD (i+3) dN).int)*(p.getD (i+3) dN).int)=(db+8*(p.getD (i+3) dN).int-1).tdiv (8*(p.getD (i+3) dN).int)*(p.getD (i+3) dN).int:=aj aa aa;rw[oV];refine wW Tryz.func70 ?_
   repeat'(first|exact y0|refine y1 ?_|refine y2 ?_ ?_|refine y4 λh=>?_|(refine wX 127 ?_;refine iq [0,1,2,3,4,5] hf1 ?_ (wr:=[(0,some (fX (E.length:Nat) nt num p Eo (.cst x) (.row 8 9 (rs++[(a:Int)]).length))),(1,some (oB E)),(2,some (pB E)),(4,none),(8,jv 8 (rs++[(a:Int)]))]) (k2:=iI))|(refine wX 127 ?_;refine iq [0,1,2,3,8,9] hf2 ?_ (wr:=[(0,some (fX (E.length:Nat) nt num p Eo (.cst x) (.row 10 11 (rs++[(a:Int)]++[(c:Int)]).length))),(1,some (oB E)),(2,some (pB E)),(8,none),(10,jv 10 (rs++[(a:Int)]++[(c:Int)]))]) (k2:=iI))|exact wv1|exact wv2|exact wv3|exact wv4|exact wv5|exact wv6|exact wv7|refine y3 ?_|exact y5|fail)
   all_goals try first
    |omega
    |exact wv1
    |exact wv2
    |exact wv3
    |exact wv4
    |exact wv5
    |exact wv6
    |exact wv7
    |exact ae aa aa
   generalize (db+8*(p.getD (i+3) dN).int-1).tdiv (8*(p.getD (i+3) dN).int)*(p.getD (i+3) dN).int=ln at*;generalize hU:eX 0 0 ln a c du E=U at hR;subst hR
   dsimp only
   refine Ex.inv (σ:=Nat×List Ent) (λq=>[(98,nI q.1)]) (λq=>[(0,some (fX (q.2.length:Nat) nt num p Eo (.cst x) (.row 10 11 (rs++[(a:Int)]++[(c:Int)]).length))),(1,some (oB q.2)),(2,some (pB q.2)),(3,some (tB T)),(7,some {cells:=[.int .i64 0,.int .u64 0,.int .u64 ln],ty:=82}),(10,jv 10 (rs++[(a:Int)]++[(c:Int)]))]) (λq=>q.1<=du.length/\q.2.length=E.length/\(∀ k,(q.2.getD k eZ).bit<=1099511627776)/\eX 0 0 ln a c (du.drop q.1) q.2=U) (λq=>du.length-q.1) (0,E) rfl (λ_=>rfl) ⟨Z08 _,rfl,hbt,hU⟩ aV ⟨rfl,rfl,rfl,rfl,rfl,SubP.op rfl trivial⟩ ?_;rintro⟨j,E1⟩ ⟨j1,j2,j3,j4⟩;simp only at j1 j2 j3 j4 |-;by_cases hj:j<du.length
   ·have hu:=hdu (du.getD j 0) (AN hj)
    rw[xy hj] at j4;obtain⟨n,hn⟩:=Z2a hu.1;have hn':(du.getD j 0).toNat=n:=aa;have hv:=xv 0 0 ln (E1.getD n eZ).bit (E1.getD n eZ).len (E1.getD n eZ).wid (E1.getD n eZ).upd a c aa aa hl0 hl1 (j3 n);rw[eX,hn'] at j4
    cases hvb:eW 0 0 ln (E1.getD n eZ).bit (E1.getD n eZ).len (E1.getD n eZ).wid (E1.getD n eZ).upd with
    |false=>
     rw[hvb] at j4 hv;rw[if_neg an] at j4;subst j4
     repeat'(first|exact y0|refine y1 ?_|refine y2 ?_ ?_|refine y4 λh=>?_|refine wX 129 (bo hv ?_)|refine RegX.oLk n rfl rfl hn aa rfl rfl rfl rfl rfl ?_|refine y3 ?_|exact y5|fail)
     all_goals try exact y7
     exact Fin.sd 10 (.inl rfl) rfl rfl rfl rfl rfl rfl rfl rfl rfl
    |true=>
     rw[hvb] at j4 hv;rw[if_pos rfl] at j4
     repeat'(first|exact y0|refine y1 ?_|refine y2 ?_ ?_|refine y4 λh=>?_|refine wX 129 (bo hv ?_)|refine RegX.oLk n rfl rfl hn aa rfl rfl rfl rfl rfl ?_|refine RegX.oUpd n (vJ (E1.getD n eZ) 0 0 ln a c) rfl rfl hn aa (VLe.refl _) rfl rfl rfl rfl ?_|refine y3 ?_|exact y5|fail)
     all_goals try exact y7
     have hls:= @Z18 _ E1 n (vJ (E1.getD n eZ) 0 0 ln a c);refine LoopR.same (j+1,E1.set n (vJ (E1.getD n eZ) 0 0 ln a c)) ⟨by simp only;omega,by simp only[hls];exact j2,yJ j3,j4⟩ (by simp only;omega) rfl aV ⟨?_,rfl,?_,rfl,rfl,SubP.op rfl trivial⟩ rfl ?_ ac
     ·simp only[hls];rfl
     ·simp only[BI];rfl
     ·unfold jv
      generalize List.map _ (rs++[(a:Int)]++[(c:Int)])=cu
      cases cu<;>rfl
   ·have hd:du.drop j=[]:=by simp;omega
    rw[hd] at j4;simp only[eX] at j4;subst j4
    repeat'(first|exact y0|refine y1 ?_|refine y2 ?_ ?_|refine y4 λh=>?_|refine y3 ?_|exact y5|fail)
    all_goals exact Fin.sd 10 (.inl rfl) rfl rfl rfl rfl rfl rfl rfl rfl rfl
end
section
variable {t:Fo} {i:Nat}
def bZ (t:Fo):List Nat:=(List.range t.size).map λi=>i+1+(t.kid 0 i).size
theorem zZ (hi:i<t.size):(bZ t).getD i 0=i+1+(t.kid 0 i).size:=by
 simp[bZ,Z00,hi]
theorem uU {p:List Nd} {cs:List (Bool×Int)} (ha:t.At p 0) (hv:t.V cs) (hs:t.size=p.length):EOK p (bZ t):=by
 refine⟨by simp[bZ,hs],λi hi=>?_⟩;obtain⟨sl,h1,_⟩:=cC (i:=i) ha hv (Z08 i) aa;rw[zZ aa];exact At.ends1 h1
def fO (t:Fo) (i:Nat):List Nat:=(List.range t.size).map λj=>if j<i then 0 else j+1+(t.kid 0 j).size
theorem CU (t:Fo) (i:Nat):(fO t i).length=t.size:=by simp[fO]
theorem CV {j:Nat} (hj:j<t.size) (h:i<=j):(fO t i).getD j 0=j+1+(t.kid 0 j).size:=by
 simp[fO,Z00,hj];omega
theorem CW (t:Fo):fO t t.size=List.replicate t.size 0:=by
 apply Z3j
 ·simp[fO]
 ·intro j h1 h2
  simp only[fO,Z0z,Z2e] at h1;simp[fO,h1]
theorem z6 (t:Fo):fO t 0=bZ t:=by simp[fO,bZ]
theorem CT (hi:i<t.size):(fO t (i+1)).set i (i+1+(t.kid 0 i).size)=fO t i:=by
 apply Z3j
 ·simp[fO]
 ·intro j h1 h2
  simp only[fO,Z0z,Z2e] at h2;rw[List.getElem_set];simp only[fO,List.getElem_map,List.getElem_range];split
  ·rename_i e;subst e;simp
  ·rename_i e
   by_cases h:j<i
   ·rw[if_pos aa,if_pos h]
   ·rw[if_neg aa,if_neg h]
end
end Go.Proofs.YtegjgpldfgjoiaaGreatDoor
namespace Go.Proofs.YtegjgpldfgjoiaaGreatDoor
open Go Ab Go.Shelf Go.Lib Go.Sort
set_option maxRecDepth 100000
set_option maxHeartbeats 40000000
theorem B_ (x y:Nat×Nat):ltOf FT x y=true↔(x.1<y.1\/(x.1=y.1/\x.2<y.2)):=by
 unfold ltOf FT compareInt;rw[decide_eq_true_iff]
 split<;>split<;>(try split)<;>(try split)<;>omega
theorem gZ (x y:Nat×Nat):ltOf FT x y=false↔ ¬(x.1<y.1\/(x.1=y.1/\x.2<y.2)):=by
 rw[<-B_];simp
theorem Ey:SWO (ltOf FT) where
 irrefl x:=by rw[gZ];omega
 trans x y z:=by simp only[B_];omega
 ntrans x y z:=by simp only[gZ];omega
theorem Et (x y:Nat×Nat) (h1:ltOf FT x y=false) (h2:ltOf FT y x=false):x=y:=by
 rw[gZ] at h1 h2;exact Prod.ext aa aa
def d_ (G:List (Nat×Nat)):List (Nat×Nat):=G.mergeSort λx y=> !(ltOf FT) y x
theorem fD (G:List (Nat×Nat)):(d_ G).length=G.length:=by unfold d_;simp
theorem Gw (φ:Ph):∀ (d:List (Nat×Nat)) (xs:List Value),All2 (Sr φ) (d.flatMap cb) xs->xs=d.flatMap ia
 |[],[],_=>rfl
 |[],_::_,h=>h.elim
 |x::d,xs,h=>by
  rw[Z0g] at h |-
  match xs,h with
  |a::b::r,⟨h1,h2,h3⟩=>
   have e1:a=.int .i64 (x.1:Int):=h1;have e2:b=.int .i64 (x.2:Int):=h2;rw[e1,e2,Gw φ d r h3];rfl
  |[_],⟨_,h2⟩=>exact h2.elim
  |[],h=>exact h.elim
theorem GU (φ:Ph):∀ (d:List (Nat×Nat)),All2 (Sr φ) (d.flatMap cb) (d.flatMap ia)
 |[]=>trivial
 |x::d=>by
  rw[Z0g,Z0g];exact All2.append ⟨rfl,rfl,trivial⟩ (GU φ d)
theorem jl:∀ d:List (Nat×Nat),(d.flatMap ia).length=d.length*2
 |[]=>rfl
 |x::d=>by rw[Z0g,Z03,jl d];simp only[Z04];simp[ia];omega
theorem yo:∀ (d:List (Nat×Nat)) (t:Nat),t<d.length*2->(d.flatMap ia)[t]! =(ia d[t/2]!)[t%2]!
 |[],t,h=>by simp at h
 |x::d,0,h=>rfl
 |x::d,1,h=>rfl
 |x::d,t+2,h=>by
  have:=yo d t (by simp only[Z04] at h;omega);rw[show (t+2)/2=t/2+1 by omega,show (t+2)%2=t%2 by omega];rw[show (x::d)[t/2+1]! =d[t/2]! by simp,<-this,Z0g];simp[ia]
theorem qn (d:List (Nat×Nat)):flatK ia 2 d.toArray=(d.flatMap ia).toArray:=by
 refine ext_get! (by simp only[size_flatK,Z3z,jl]) λt ht=>?_
 have ht':t<d.length*2:=by simpa using ht
 rw[get_flatK _ _ _ t (by simpa using ht')];have:=yo d t ht'
 simpa using this.symm
theorem CP:∀ args w,(callFunc 120 args).run Tryz.prog w=.ok (.enter 120 args) w:=by
 intro args w;simp only[callFunc,Z09,run_program,Z05,Tryz.func120];rfl
theorem rx (pre ys zs rest:List Value) (h:zs.length=ys.length):putCells id pre.length zs.toArray (pre++(ys++rest)).toArray=(pre++(zs++rest)).toArray:=by
 unfold putCells;apply Array.ext_getElem?;intro i;simp only[List.mapIdx_toArray,Z1a,List.getElem?_mapIdx,Z3z];by_cases h1:i<pre.length
 ·rw[Z0x h1,Z0x h1]
  cases pre[i]? with
  |none=>rfl
  |some x=>simp;omega
 ·rw[Z1f (l₁:=pre) (l₂:=ys++rest) aa,Z1f (l₁:=pre) (l₂:=zs++rest) aa]
  by_cases h2:i-pre.length<zs.length
  ·have h3:i-pre.length<ys.length:=aa
   rw[Z0x (l₁:=ys) h3,Z0x (l₁:=zs) h2,Z01 h3,Z01 h2];simp only[Z1j,Z06];rw[if_pos ⟨aa,aa⟩];simp[h2]
  ·rw[Z1f (l₁:=ys) aa,Z1f (l₁:=zs) aa,h]
   cases rest[i-pre.length-ys.length]? with
   |none=>rfl
   |some x=>simp only[Z1j,Z06];rw[if_neg aa]
theorem AU (w:World) (b o n:Nat) (D:Array (Nat×Nat)) (os:Array Obj) (j:Nat) (hj:j<w.heap.size) (hb:j≠b):(sortWorldK ia 2 w b o n D os).heap[j]? =w.heap[j]? :=by
 show ((w.heap.modify b _)++os)[j]? =_;rw[Array.getElem?_append_left (by simpa using hj),Z5v,if_neg (Z48 hb)]
theorem I1 (w:World) (b n:Nat) (d:List (Nat×Nat)) (os:Array Obj) (pre ys rest:List Value) (ty:TypeId) (fr:Nat×Nat) (hw:w.heap[b]? =some (.cells (pre++(ys++rest)).toArray ty fr)) (hl:ys.length=d.length*2):
 (sortWorldK ia 2 w b pre.length n d.toArray os).heap[b]? =some (.cells (pre++(d.flatMap ia++rest)).toArray ty fr):=by
 have hb:b<w.heap.size:=by
  rcases Z0a b w.heap.size with h|h
  ·exact h
  ·rw[Z32 h] at hw;cases hw
 show ((w.heap.modify b (onCells (putCells id pre.length (flatK ia 2 d.toArray))))++os)[b]? =_;rw[Array.getElem?_append_left (by simpa using hb),Z5v,if_pos rfl,hw,qn];show some (Obj.cells (putCells id pre.length (d.flatMap ia).toArray (pre++(ys++rest)).toArray) ty fr)=_;rw[rx pre ys _ rest (by rw[jl,hl])]
theorem Cw (w:World) (b:Nat) (d:List (Nat×Nat)) (pre rest:List Value) (ty:TypeId) (fr:Nat×Nat) (hw:w.heap[b]? =some (.cells (pre++(d.flatMap ia++rest)).toArray ty fr))
 (hfr:∀ o,o<(pre++(d.flatMap ia++rest)).length->(fr.1<=o&&o<fr.2)=false):HoldsK ia 2 w b pre.length d.toArray:=by
 intro j hj;rw[qn] at hj |-;simp only[Z3z] at hj;constructor
 ·unfold World.cell?
  rw[hw];simp only[Z2b,Z0l,if_false,Z1a,id];rw[Z1f aa,Z0x aa,show pre.length+j-pre.length=j by omega];rw[getElem!_pos _ _ (by simpa using hj)];simp
 ·unfold World.frozen?
  rw[hw];exact hfr _ (by simp only[Z03];omega)
theorem od {ty g w:Nat} {cs:List S} (h:cs≠[]):eI ty g w cs=some {cells:=cs,ty:=ty,more:=true,sym:=true,flat:=true,gh:=some (g,w)}:=by
 cases cs with
 |nil=>exact absurd rfl h
 |cons c cs=>rfl
theorem C7 {d:List (Nat×Nat)} (h:0<d.length):d.flatMap cb≠[]:=λe=>by
 have:=wO d;rw[e] at this;simp at this;omega
theorem A8 (d:List (Nat×Nat)) (hd:d.length<=1000000000000):
 FC Tryz.prog 119 [.s (.row 0 1 d.length),.s (.fn 120)] 2 [(0,bA 0 d)] .any 2 [(0,bA 0 (d_ d))]:=by
 refine⟨by kernel_rfl,λφ xs w hx hg hf=>?_⟩
 match xs,hx with
 |[x0,x1],⟨h0,h1,_⟩=>
  have h1:x1=.func (.func 120) #[] #[]:=h1;subst h1
  rcases Z21 d.length with hz|hz
  ·obtain rfl:=Z15 hz
   have h0:x0=.slice none 0 0:=by
    rcases h0 with ⟨_,h⟩|⟨h,_⟩
    ·exact h
    ·exact absurd h an
   subst h0;refine (AnyF.slices_SortFunc_none Tryz.sortD none 0 _ w).mono ?_;rintro e w' ⟨rfl,rfl⟩
   have e0:d_ []=[]:=by simp[d_]
   rw[e0];exact⟨φ,_,rfl,trivial,hg,hf,Stp.refl _ _ _,Z02 _,λ_ _=>rfl⟩
  ·have hs1:=fD d
   have eL:bA 0 d=some {cells:=d.flatMap cb,ty:=112,more:=true,sym:=true,flat:=true,gh:=some (1,2)}:=od (C7 hz);have AC:bA 0 (d_ d)=some {cells:=(d_ d).flatMap cb,ty:=112,more:=true,sym:=true,flat:=true,gh:=some (1,2)}:=od (C7 aa);rw[eL] at hg;rw[eL,AC]
   obtain⟨b,k,hb,hg1,rfl,hk⟩:∃ b k,φ.f 0=some b/\φ.f 1=some (k,0)/\x0=.slice (some ⟨b.1,b.2,none⟩) d.length k/\d.length<=k:=by
    rcases h0 with ⟨h,_⟩|⟨_,h⟩
    ·omega
    ·exact h
   obtain⟨b',hb',hbl⟩:=hg.hr 0 _ rfl
   obtain rfl:b'=b:=by rw[show φ.f 0=some b from hb] at hb';exact (Z1c hb').symm
   obtain⟨pre,ys,rest,fr,hw,hpre,hys,_,hro,hgh,_⟩:=hbl;have hy:=Gw _ d ys hys;have hro:=hro rfl;subst hy
   have hwr:∀ c,Wr φ [(0,some {cells:=d.flatMap cb,ty:=112,more:=true,sym:=true,flat:=true,gh:=some (1,2)})] c↔c=b'.1:=λc=>by
    constructor
    ·rintro⟨i,bl,e,hi,he,rfl,_⟩
     rw[bd] at hi;split at hi
     ·rename_i h;subst h;rw[show φ.f 0=some b' from hb] at he;rw[Z1c he]
     ·cases hi
    ·rintro rfl;exact⟨0,_,b',rfl,hb,rfl,rfl⟩
   have hwr':∀ c,Wr φ [(0,some {cells:=(d_ d).flatMap cb,ty:=112,more:=true,sym:=true,flat:=true,gh:=some (1,2)})] c↔c=b'.1:=λc=>by
    constructor
    ·rintro⟨i,bl,e,hi,he,rfl,_⟩
     rw[bd] at hi;split at hi
     ·rename_i h;subst h;rw[show φ.f 0=some b' from hb] at he;rw[Z1c he]
     ·cases hi
    ·rintro rfl;exact⟨0,_,b',rfl,hb,rfl,rfl⟩
   have hlt:b'.1<w.heap.size:=by
    rcases Z0a b'.1 w.heap.size with h|h
    ·exact h
    ·rw[Z32 h] at hw;cases hw
   have hH:=Cw w b'.1 d pre rest _ fr hw hro;rw[hpre] at hH;have ht:=mT (P:=Tryz.prog) (t:=112) (ag:=true) (sz:=2) (by kernel_rfl);refine (AnyQ.slices_SortFunc_total Tryz.sortD 2 (λw=>(ht w).1) (λw=>(ht w).2) ia (λ_=>rfl) (λx v hv=>by simp[ia] at hv;rcases hv with rfl|rfl<;>rfl) FT Ey 120 #[] b'.1 b'.2 k d.toArray w CP ?_ hH hlt (by simp;omega) Et).mono ?_
   ·intro m os dk _ x y
    refine (Ag (x.1:Int) (x.2:Int) (y.1:Int) (y.2:Int) _).mono ?_;rintro e w' ⟨rfl,q,os',rfl⟩;exact⟨rfl,q,os',rfl⟩
   ·rintro e w' ⟨rfl,n,os,rfl⟩
    have ho:=λj=>AU w b'.1 b'.2 n (d_ d).toArray os j
    have hat:=I1 w b'.1 n (d_ d) os pre _ rest _ fr hw (by rw[jl,fD]);rw[hpre] at hat;refine⟨φ,_,rfl,trivial,⟨λi bl hi=>?_,λi j bl bl' c c' hi hj _ _ _=>?_,λc l hz'=>?_,hg.gz⟩,hf,⟨rfl,rfl,rfl,?_,λc hc hn=>ho c hc λe=>hn ((hwr c).2 e),λj bl c hj hc hcl=>?_,λ_ _ h=>h,λ_ _ h=> .inl h⟩,Z02 _,λ_ _=>rfl⟩
    ·rw[bd] at hi
     split at hi
     ·rename_i h;subst h;obtain rfl:=Z1c hi
      refine⟨b',hb,pre,_,rest,fr,hat,hpre,GU _ _,λh=>(by cases h),λ_ o ho'=>hro o ?_,λg z hgz=>?_,λg h=>(by cases h)⟩
      ·simp only[Z03,jl,fD] at ho' |-;exact ho'
      ·obtain⟨k',hk',hz'⟩:=hgh g z hgz
       refine⟨k',hk',?_⟩;simp only[Z03,jl,fD] at hz' |-;exact hz'
     ·cases hi
    ·rw[bd] at hi hj
     split at hi
     ·split at hj
      ·rename_i h h';exact .inl (h.symm.trans h')
      ·cases hj
     ·cases hi
    ·obtain⟨⟨ty,fr',e⟩,hn⟩:=hg.fz c l hz'
     have hne:c≠b'.1:=λe=>hn ((hwr c).2 e)
     exact⟨⟨ty,fr',(ho c (hg.fzlt hz') hne).trans e⟩,λh=>hne ((hwr' c).1 h)⟩
    ·show w.heap.size<=((w.heap.modify b'.1 _)++os).size
     simp
    ·rw[bd] at hj
     split at hj
     ·rename_i h;subst h
      exact⟨0,_,c,rfl,hc,rfl,λh=>(by cases h),.inl rfl⟩
     ·cases hj
end Go.Proofs.YtegjgpldfgjoiaaGreatDoor
namespace Go.Proofs.YtegjgpldfgjoiaaGreatDoor
open Go Ab
set_option maxRecDepth 100000
set_option maxHeartbeats 40000000
def mP (G:List (Nat×Nat)):V:=.s (.frz (λk=>cb (G.getD k (0,0))) 2 G.length)
theorem sg {G:List (Nat×Nat)} {k j:Nat} {x:S} (hk:k<G.length) (hx:(cb (G.getD k (0,0)))[j]? =some x):(G.flatMap cb)[k*2+j]? =some x/\bE x=true:=by
 induction G generalizing k with
 |nil=>simp at hk
 |cons y G ih=>
  cases k with
  |zero=>
   rw[Z0g]
   match j,hx with
   |0,hx=>cases hx;exact⟨rfl,rfl⟩
   |1,hx=>cases hx;exact⟨rfl,rfl⟩
   |_+2,hx=>cases hx
  |succ k=>
   have:=ih (k:=k) (by simpa using hk) (by simpa using hx);rw[Z0g,show (k+1)*2+j=(k*2+j)+2 by omega];exact this
theorem Hn:FC Tryz.prog 119 [.s (.row 0 1 0),.s (.fn 120)] 2 [] .any 2 []:=by
 have:=A8 [] ac;rw[show d_ []=[] by simp[d_]] at this;exact⟨this.1,λφ xs w hx hg hf=>(this.2 φ xs w hx (hg.sub λi bl h=>by rw[bd] at h;split at h<;>cases h) hf).mono λe w' ⟨φ',x,a,b,c,d,e,f⟩=>⟨φ',x,a,b,c.sub λi bl h=>(by cases h),d,⟨e.os,e.tape,e.output,e.size,λb hb hn=>e.keep b hb λ⟨i,bl,c,h,_⟩=>(by rw[bd] at h;split at h<;>cases h),λj bl b h=>(by cases h),e.zle,λb l hb=>(e.zfr b l hb).elim .inl λh=>h.elim (λh=> .inr (.inl h)) λ⟨i,bl,c,h,_⟩=>(by rw[bd] at h;split at h<;>cases h)⟩,f⟩⟩
abbrev dgS (g:Nat) (G:List (Nat×Nat)):Bl:={cells:=G.flatMap cb,ty:=112,more:=true,sym:=true,flat:=true,gh:=some (g+1,2)}
theorem sh {g:Nat} {G:List (Nat×Nat)} (h:0<G.length):bA g G=some (dgS g G):=od (C7 h)
theorem Hm (d:List (Nat×Nat)) (hd:d.length<=1000000000000) (h:0<d.length):FC Tryz.prog 119 [.s (.row 0 1 d.length),.s (.fn 120)] 2 [(0,some (dgS 0 d))] .any 2 [(0,some (dgS 0 (d_ d)))]:=by
 have:=A8 d hd
 rwa [sh h,sh (by rw[fD];exact h)] at this
theorem Dq (p:List Nd) (hw:mS p) (h:cy p=false):FC Tryz.prog 65 [al p] 0 [] (mP [(0,1)]) 0 []:=by
 have hv:=s5 p hw;rw[h] at hv;refine wW Tryz.func65 ?_
 repeat'(first|exact y0|refine y1 ?_|refine y2 ?_ ?_|refine y4 λh=>?_|refine wX 114 (pu hv ?_)|refine Ex.fz 2 (λk=>cb ([(0,1)].getD k (0,0))) 2 rfl rfl rfl rfl (λ_ _=>rfl) (λk j x hk hx=>sg hk hx) rfl rfl ?_|refine Fin.le (.inl rfl) rfl (VLe.refl _) rfl|refine y3 ?_|exact y5|fail)
theorem qu (p:List Nd) (hw:mS p) (hI:pR p) (h:cy p=true) (hp:p.length<=2048) (t:Fo) (ha:t.At p 0) (hv:t.V (List.replicate t.cnt (false,68))) (hs:t.size=p.length):
 FC Tryz.prog 65 [al p] 0 [] (mP (d_ (kx p (anS p t).F (anS p t).S t p.length 0 (anS p t).G))) 0 []:=by
 have hvl:=s5 p hw;rw[h] at hvl
 have hn:∀ j,j<p.length->jH p j:=λj hj=>by
  obtain⟨sl,h1,h2⟩:=cC ha hv (Z08 _) (aa:j<0+t.size);exact v_ h1 h2
 have hso:=SOK.anS ha;have hT:=(cX false t 0 ⟨true,0,[]⟩ (sU p)).1;have hG:=(cX false t 0 ⟨true,0,[]⟩ (sU p)).2.2;have hac:=Ao p hp hw t ha hv hs;unfold anS at hso hac |-;generalize aQ false t 0 ⟨true,0,[]⟩ (sU p)=U at*;rw[show (sU p).S.length=p.length by simp[sU]] at hT;rw[show (sU p).G.length=0 from rfl] at hG;obtain⟨T,D,F,G0⟩:=U;simp only at hso hT hG |-
 have hTl:∀ q∈T,q.segs.length<=1000000:=λq hq=>by have:=hso.1 q hq;omega
 generalize hR:kx p F T t p.length 0 G0=R;refine wW Tryz.func65 ?_
 repeat'(first|exact y0|refine y1 ?_|refine y2 ?_ ?_|refine y4 λh=>?_|refine wX 114 (pu hvl ?_)|(refine wX 115 ?_;refine CallG.mo [] hac rfl rfl (by rfl) rfl rfl aV trivial rfl rfl (wr:=DJ p ⟨T,D,F,G0⟩) (by show [_,_,_,_,_]=_;rw[aH,aH];rfl) ?_)|refine y3 ?_|exact y5|fail)
 refine Ex.canon [0,1,2,3,4,5,6,7] 36 [(0,al p),(3,.s (.ptr (some (0,0)))),(13,nI p.length),(14,nI 0)] (sW p D.length T F G0) rfl rfl ⟨VLe.refl _,VLe.refl _,VLe.refl _,VLe.refl _,trivial⟩ ⟨rfl,rfl,rfl,MemP.op rfl trivial⟩ (by unfold sW bA;generalize List.flatMap cb _=cg;cases cg<;>rfl) ?_
 refine Ex.inv (σ:=Nat×List (Nat×Nat)) (λq=>[(14,nI q.1)]) (λq=>sW p D.length T F q.2)
  (λq=>q.1<=p.length/\q.2.length<=2048+q.1*6145/\kx p F T t (p.length-q.1) q.1 q.2=R) (λq=>p.length-q.1) (0,G0) rfl (λ_=>rfl) ?_ ?_ ?_ ?_
 ·exact⟨Z08 _,by simp only;omega,hR⟩
 ·exact aV
 ·exact⟨rfl,rfl,rfl,SubP.op rfl trivial⟩
 ·rintro⟨i,G⟩ ⟨h1,h2,h3⟩
  simp only at h1 h2 h3 |-
  rcases Z0a i p.length with hi|hi
  ·obtain⟨sl,g1,g2⟩:=cC ha hv (Z08 i) (aa:i<0+t.size)
   have hoo:=xU p hp hI i (hn i hi);rw[show p.length-i=(p.length-(i+1))+1 by omega] at h3;simp only[kx] at h3
   cases ho:aK p i with
   |false=>
    rw[ho] at hoo h3;rw[if_neg ac] at h3;have hlen:=lF (F:=F) (sc:=T.getD i z0) (G:=G) hp g1 g2;have hnd:=BW p hp hw hI hn D.length T hT hTl F hso.2 i _ _ sl G g1 g2 aa;generalize fG p F (T.getD i z0) (t.kid 0 i) i G=G2 at*
    have k2:eV 8 (sW p D.length T F G)=true:=(by unfold sW bA;generalize List.flatMap cb _=cg;cases cg<;>rfl)
    repeat'(first|exact y0|refine y1 ?_|refine y2 ?_ ?_|refine y4 λh=>?_|refine wX 116 (ip [0] 0 hoo ?_)|(refine wX 118 ?_;refine iq [0,1,2,3,4,5,6,7] hnd ?_ (wr:=[(0,some (e8 p 3 D.length 8 G2.length)),(1,some (nQ T)),(5,some (cj F)),(6,none),(8,bA 8 G2)]) (k2:=k2))|refine y3 ?_|exact y5|fail)
    all_goals try omega
    refine LoopR.move (i+1,G2) ⟨hi,by simp only;omega,h3⟩ (by simp only;omega) [0,1,2,3,4,5,8,9] rfl ?_ ?_ ?_
    ·repeat' (first|exact VLe.refl _|exact VLe.any _|exact Z0o|refine⟨?_,?_⟩)
    ·exact⟨rfl,rfl,rfl,MemP.op rfl trivial⟩
    ·exact (by unfold sW bA;generalize List.flatMap cb _=cg;cases cg<;>rfl)
   |true=>
    rw[ho] at hoo h3;rw[if_pos rfl] at h3;have hlen:=lF (F:=F) (sc:=T.getD i z0) (G:=G++[(i,4)]) hp g1 g2;have hnd:=BW p hp hw hI hn D.length T hT hTl F hso.2 i _ _ sl (G++[(i,4)]) g1 g2 (by simp only[Z03,Z0n];omega);simp only[Z03,Z0n] at hlen;generalize fG p F (T.getD i z0) (t.kid 0 i) i (G++[(i,4)])=G2 at*;simp only[sW,Z03,Z0n] at hnd
    have k2:eV 8 [(0,some (e8 p 3 D.length 6 (G.length+1))),(1,some (nQ T)),(5,some (cj F)),(6,bA 6 (G++[(i,4)]))]=true:=by
     unfold bA;generalize List.flatMap cb _=cg;cases cg<;>rfl
    repeat'(first|exact y0|refine y1 ?_|refine y2 ?_ ?_|refine y4 λh=>?_|refine wX 116 (ip [0] 0 hoo ?_)|(refine wX 117 ?_;refine CallG.mo [0,1,2,3,4,5,6,7] (cT p D.length G i 4 aa) rfl (bI rfl rfl rfl) rfl rfl rfl aV nC rfl rfl (wr:=[(0,some (e8 p 3 D.length 8 (G.length+1))),(6,none),(8,bA 8 (G++[(i,4)]))]) (by show [_,_,_]=_;rw[aH];rfl) ?_)|(refine wX 118 ?_;refine iq [0,1,2,3,4,5,8,9] hnd ?_ (wr:=[(0,some (e8 p 3 D.length 10 G2.length)),(1,some (nQ T)),(5,some (cj F)),(8,none),(10,bA 10 G2)]) (k2:=k2))|refine y3 ?_|exact y5|fail)
    all_goals try omega
    refine LoopR.move (i+1,G2) ⟨hi,by simp only;omega,h3⟩ (by simp only;omega) [0,1,2,3,4,5,10,11] rfl ?_ ?_ ?_
    ·repeat' (first|exact VLe.refl _|exact VLe.any _|exact Z0o|refine⟨?_,?_⟩)
    ·exact⟨rfl,rfl,rfl,MemP.op rfl trivial⟩
    ·exact (by unfold sW bA;generalize List.flatMap cb _=cg;cases cg<;>rfl)
  ·have he:i=p.length:=aa
   subst he;rw[Z3r] at h3;simp only[kx] at h3;subst h3;have hl:=fD G;unfold mP;rw[hl]
   rcases Z21 G.length with hz|hz
   ·obtain rfl:=Z15 hz
    show Ex _ _ _ _ _ [(0,some (e8 p 3 D.length 6 0)),(1,some (nQ T)),(5,some (cj F)),(6,none)] _
    repeat'(first|exact y0|refine y1 ?_|refine y2 ?_ ?_|refine y4 λh=>?_|refine RegX.atCall (cf [6,7] Hn ?_)|refine Ex.set 2 (.s (.frz (λk=>cb ((d_ []).getD k (0,0))) 2 0)) (VLe.s SLe.row0) rfl ?_|refine Fin.le (.inl rfl) rfl (VLe.refl _) rfl|refine y3 ?_|exact y5|fail)
    all_goals try omega
   ·have hsp:=Hm G aa hz
    rw[show sW p D.length T F G=[(0,some (e8 p 3 D.length 6 G.length)),(1,some (nQ T)),(5,some (cj F)),(6,some (dgS 6 G))] from by unfold sW;rw[sh hz]]
    repeat'(first|exact y0|refine y1 ?_|refine y2 ?_ ?_|refine y4 λh=>?_|refine RegX.atCall (cf [6,7] hsp ?_)|refine Ex.fz 2 (λk=>cb ((d_ G).getD k (0,0))) 2 rfl rfl rfl rfl (λ_ _=>rfl) (λk j x hk hx=>sg aa hx) rfl rfl ?_|refine Fin.le (.inl rfl) rfl (VLe.refl _) rfl|refine y3 ?_|exact y5|fail)
    all_goals try omega
section
variable {j:Nat}
abbrev Dgs:=List (Nat×Nat)
theorem FL {a:Nat×Nat} {x:S} (h:(cb a)[j]? =some x):bE x=true:=by
 rcases j with _|_|j
 ·cases h;rfl
 ·cases h;rfl
 ·simp[cb] at h
end
theorem aW:∀ (m:Bool) (t:Fo) (i:Nat) (lp r:Bool) (G:Dgs),aN m t i lp r G=G++aN m t i lp r []
 |true,.nil,_,_,_,G=>by simp[aN]
 |false,.nil,_,_,_,G=>by simp[aN]
 |true,.cons x k n,i,lp,r,G=>by
  simp only[aN];rw[aW true n (i+1+k.size) lp r (if x.op=4 then aN false k (i+1) lp true G else G),aW true n (i+1+k.size) lp r (if x.op=4 then aN false k (i+1) lp true [] else [])];split
  ·rw[aW false k (i+1) lp true G];simp only[Z14]
  ·simp
 |false,.cons x k n,i,lp,r,G=>by
  simp only[aN]
  have h2:bU x.op i lp (dM i r G)=G++bU x.op i lp (dM i r []):=by
   unfold bU dM
   split<;>split<;>simp
  rw[h2];generalize bU x.op i lp (dM i r [])=E;rw[aW false n (i+1+k.size) lp _ (if x.op=31 then aN true k (i+1) lp true (G++E) else if x.op=32 then aN true k (i+1) true true (G++E) else G++E),aW false n (i+1+k.size) lp _ (if x.op=31 then aN true k (i+1) lp true E else if x.op=32 then aN true k (i+1) true true E else E)];split
  ·rw[aW true k (i+1) lp true (G++E),aW true k (i+1) lp true E];simp only[Z14]
  ·split
   ·rw[aW true k (i+1) true true (G++E),aW true k (i+1) true true E];simp only[Z14]
   ·simp only[Z14]
theorem gR (p:List Nd) (lim:Int):∀ (c j:Nat) (G:Dgs),fk p lim c j G=G++fk p lim c j []
 |0,_,G=>by simp[fk]
 |c+1,j,G=>by
  simp only[fk];rw[gR p lim c (j+1) (if (p.getD j dN).op=7/\lim<=ai p j then G++[(j,9)] else G),gR p lim c (j+1) (if (p.getD j dN).op=7/\lim<=ai p j then []++[(j,9)] else [])]
  split<;>simp
theorem B7 (p:List Nd) (bl:Fo) (i:Nat) (G:Dgs):lG p bl i G=G++lG p bl i []:=by
 unfold lG;rw[aW _ _ _ _ _ (fk p _ _ _ G),aW _ _ _ _ _ (fk p _ _ _ []),gR p _ _ _ G,Z14]
theorem co (p:List Nd) (len w:Int):∀ (t:Fo) (i:Nat) (bit:Int) (G:Dgs),bH p len w t i bit G=G++bH p len w t i bit []
 | .nil,_,_,G=>by simp[bH]
 | .cons x k n,i,bit,G=>by
   simp only[bH];split
   ·simp
   ·split
    ·exact co p len w n _ _ G
    ·rw[co p len w n _ _ (if len<((bit+ai p (i+2)-1).tdiv (8*w)+1)*w then G++[(i,7)] else G),co p len w n _ _ (if len<((bit+ai p (i+2)-1).tdiv (8*w)+1)*w then []++[(i,7)] else [])]
     split<;>simp
theorem wI (p:List Nd) (F:List (By×Nat)) (sc:Pth) (bl:Fo) (i:Nat) (G:Dgs):gu p F sc bl i G=G++gu p F sc bl i []:=by
 unfold gu;split
 ·simp
 ·split
  ·simp
  ·exact co _ _ _ _ _ _ _
theorem zD (p:List Nd) (F:List (By×Nat)) (sc:Pth) (k:Fo) (i:Nat) (G:Dgs):fG p F sc k i G=G++fG p F sc k i []:=by
 unfold fG;split
 ·split<;>simp
 ·split
  ·exact wI _ _ _ _ _ _
  ·split
   ·split<;>simp
   ·split
    ·exact B7 _ _ _ _
    ·simp
def gE (p:List Nd) (F:List (By×Nat)) (T:List Pth) (t:Fo) (i:Nat):Dgs:=(if aK p i then [(i,4)] else [])++fG p F (T.getD i z0) (t.kid 0 i) i []
theorem iD (p:List Nd) (F:List (By×Nat)) (T:List Pth) (t:Fo):∀ (c i:Nat) (G:Dgs),kx p F T t c i G=G++(List.range' i c).flatMap (gE p F T t)
 |0,i,G=>by simp[kx]
 |c+1,i,G=>by
  simp only[kx];rw[iD p F T t c (i+1),zD,Z31,Z0g];unfold gE
  split<;>simp
def Inn (lo hi:Nat) (E:Dgs):Prop:=E.Nodup/\∀ d∈E,lo<=d.1/\d.1<hi
theorem Inn.nil (lo hi:Nat):Inn lo hi []:=⟨Z5b,λd h=>by cases h⟩
theorem Inn.app {lo mid hi:Nat} {A B:Dgs} (ha:Inn lo mid A) (hb:Inn mid hi B) (h1:lo<=mid) (h2:mid<=hi):Inn lo hi (A++B):=by
 refine⟨Z3p.2 ⟨ha.1,hb.1,λa hA b hB e=>?_⟩,λd hd=>?_⟩
 ·have:=ha.2 a hA
  have:=hb.2 b hB;rw[e] at*;omega
 ·rcases Z0w.1 hd with h|h
  ·have:=ha.2 d h;omega
  ·have:=hb.2 d h;omega
theorem Inn.mono {lo hi lo' hi':Nat} {A:Dgs} (ha:Inn lo hi A) (h1:lo'<=lo) (h2:hi<=hi'):Inn lo' hi' A:=⟨ha.1,λd hd=>by have:=ha.2 d hd;omega⟩
theorem Inn.one (i c:Nat):Inn i (i+1) [(i,c)]:=⟨an,λd hd=>by simp at hd;subst hd;simp only;omega⟩
theorem Ez (op:Int) (i:Nat) (lp r:Bool):Inn i (i+1) (bU op i lp (dM i r [])):=by
 unfold bU dM
 split<;>split
 ·exact Inn.one i 8
 ·refine⟨an,λd hd=>?_⟩
  simp at hd
  rcases hd with rfl|rfl<;>exact⟨Z02 _,Z1t _⟩
 ·exact Inn.nil _ _
 ·exact Inn.one i 10
theorem fC:∀ (m:Bool) (t:Fo) (i:Nat) (lp r:Bool),Inn i (i+t.size) (aN m t i lp r [])
 |true,.nil,i,_,_=>Inn.nil _ _
 |false,.nil,i,_,_=>Inn.nil _ _
 |true,.cons x k n,i,lp,r=>by
  simp only[aN,Fo.size];rw[aW];refine Inn.app (mid:=i+1+k.size) ?_ ((fC true n (i+1+k.size) lp r).mono (Z02 _) aa) aa aa;split
  ·exact (fC false k (i+1) lp true).mono aa (Z02 _)
  ·exact Inn.nil _ _
 |false,.cons x k n,i,lp,r=>by
  simp only[aN,Fo.size];rw[aW];refine Inn.app (mid:=i+1+k.size) ?_ ((fC false n (i+1+k.size) lp _).mono (Z02 _) aa) aa aa;have h0:=Ez x.op i lp r;generalize bU x.op i lp (dM i r [])=E at*;split
  ·rw[aW]
   exact Inn.app h0 (fC true k (i+1) lp true) aa aa
  ·split
   ·rw[aW]
    exact Inn.app h0 (fC true k (i+1) true true) aa aa
   ·exact h0.mono (Z02 _) aa
theorem vh (p:List Nd) (lim:Int):∀ (c j:Nat),Inn j (j+c) (fk p lim c j [])
 |0,_=>Inn.nil _ _
 |c+1,j=>by
  simp only[fk];rw[gR];refine Inn.app (mid:=j+1) ?_ ((vh p lim c (j+1)).mono (Z02 _) aa) aa aa;split
  ·exact Inn.one j 9
  ·exact Inn.nil _ _
theorem jJ (p:List Nd) (len w:Int):∀ (t:Fo) (i:Nat) (bit:Int),Inn i (i+t.size) (bH p len w t i bit [])
 | .nil,_,_=>Inn.nil _ _
 | .cons x k n,i,bit=>by
   simp only[bH,Fo.size];split
   ·exact Inn.nil _ _
   ·split
    ·exact (jJ p len w n _ _).mono aa aa
    ·rw[co]
     refine Inn.app (mid:=i+1) ?_ ((jJ p len w n _ _).mono aa aa) aa aa;split
     ·exact Inn.one i 7
     ·exact Inn.nil _ _
theorem cz:∀ (m:Bool) (t:Fo) (i:Nat) (lp r:Bool),∀ d∈aN m t i lp r [],d.2=8\/d.2=10
 |true,.nil,i,_,_=>λd h=>by cases h
 |false,.nil,i,_,_=>λd h=>by cases h
 |true,.cons x k n,i,lp,r=>by
  intro d hd;simp only[aN] at hd;rw[aW] at hd
  rcases Z0w.1 hd with h|h
  ·split at h
   ·exact cz false k (i+1) lp true d h
   ·cases h
  ·exact cz true n _ lp r d h
 |false,.cons x k n,i,lp,r=>by
  intro d hd;simp only[aN] at hd;rw[aW] at hd
  have h0:∀ d∈bU x.op i lp (dM i r []),d.2=8\/d.2=10:=by
   unfold bU dM
   split<;>split<;>intro d hd<;>simp at hd
   ·exact .inl (by rw[hd])
   ·rcases hd with rfl|rfl
    ·exact .inr rfl
    ·exact .inl rfl
   ·exact .inr (by rw[hd])
  generalize bU x.op i lp (dM i r [])=E at*
  rcases Z0w.1 hd with h|h
  ·split at h
   ·rw[aW] at h
    rcases Z0w.1 h with h|h
    ·exact h0 d h
    ·exact cz true k _ lp true d h
   ·split at h
    ·rw[aW] at h
     rcases Z0w.1 h with h|h
     ·exact h0 d h
     ·exact cz true k _ true true d h
    ·exact h0 d h
  ·exact cz false n _ lp _ d h
theorem qy (p:List Nd) (lim:Int):∀ (c j:Nat),∀ d∈fk p lim c j [],d.2=9
 |0,_=>λd h=>by cases h
 |c+1,j=>by
  intro d hd;simp only[fk] at hd;rw[gR] at hd
  rcases Z0w.1 hd with h|h
  ·split at h
   ·simp at h;rw[h]
   ·cases h
  ·exact qy p lim c _ d h
theorem iw (p:List Nd) (len w:Int):∀ (t:Fo) (i:Nat) (bit:Int),∀ d∈bH p len w t i bit [],d.2=7/\d.1∈t.starts i
 | .nil,_,_=>λd h=>by cases h
 | .cons x k n,i,bit=>by
   intro d hd;simp only[bH] at hd;simp only[Fo.starts,Z0h];split at hd
   ·cases hd
   ·split at hd
    ·have:=iw p len w n _ _ d hd
     exact⟨this.1,.inr this.2⟩
    ·rw[co] at hd
     rcases Z0w.1 hd with h|h
     ·split at h
      ·simp at h;rw[h];exact⟨rfl,.inl rfl⟩
      ·cases h
     ·have:=iw p len w n _ _ d h
      exact⟨this.1,.inr this.2⟩
theorem tM {sp ba ln:Int}:rk sp ba ln=true↔1<=ln/\ln<=1048576/\(sp=0\/sp=1\/sp=3/\ba<=256/\ba+ln<=256):=by
 unfold rk;split
 ·simp;omega
 ·split
  ·simp;omega
  ·split
   ·rw[decide_eq_true_eq];omega
   ·simp;omega
theorem AL {sp ba ln bit len wid upd:Int} (hw:wid=1\/wid=2\/wid=4\/wid=8):eW sp ba ln bit len wid upd=true↔rk sp ba ln=true/\ ¬((sp=3/\wid≠1)\/ba.tmod wid≠0)/\ ¬(upd<0\/2<upd\/bit<0\/len<1\/256<len)/\(bit+len-1).tdiv (8*wid)<ln.tdiv wid:=by
 unfold eW;rw[if_neg (c:= ¬_) (λh=>h hw)];cases rk sp ba ln
 ·simp
 ·simp only[Z3x,if_false,true_and]
  split
  ·rename_i h;simp[h]
  ·rename_i h
   split
   ·rename_i h2;simp[h2]
   ·rename_i h2
    rw[decide_eq_true_eq];exact⟨λe=>⟨h,h2,e⟩,λe=>e.2.2⟩
theorem pU (sp ba ln bit len wid upd idx dat:Int) (h0:0<=ba) (h1:ba<=9223372036854775808) (h2:0<=ln) (h3:ln<=1099511627776) (h4:0<=bit) (h5:bit<=1099511627776) (h6:1<=len) (h7:len<=256) (h8:0<=upd) (h9:upd<=2) (hw:wid=1\/wid=2\/wid=4\/wid=8):
 FC Tryz.prog 147 [.agg [.int .i64 sp,.int .u64 ba,.int .u64 ln,.int .i64 bit,.int .i64 len,.int .i64 wid,.int .i64 upd,.int .i64 idx,.int .i64 dat]] 0 [] (bV (eW sp ba ln bit len wid upd)) 0 []:=by
 have hv:=AL (sp:=sp) (ba:=ba) (ln:=ln) (bit:=bit) (len:=len) (upd:=upd) hw;have g1:ln.tdiv wid=ln/wid:=Z5g h2;have g2:(bit+len-1).tdiv (8*wid)=(bit+len-1)/(8*wid):=Z5g aa;refine wW Tryz.func147 ?_;cases hb:rk sp ba ln
 ·have hb: ¬(1<=ln/\ln<=1048576/\(sp=0\/sp=1\/sp=3/\ba<=256/\ba+ln<=256)):=by rw[<-tM,hb];simp
  have e:eW sp ba ln bit len wid upd=false:=by cases e:eW sp ba ln bit len wid upd<;>simp_all
  rw[e];clear hv g1 g2
  repeat'(first|exact y0|refine y1 ?_|refine y2 ?_ ?_|refine y4 λh=>?_|refine Fin.bool (.inl rfl) rfl ?_|refine y3 ?_|exact y5|fail)
 rw[hb] at hv;obtain⟨b1,b2,b3⟩:=tM.1 hb;clear hb
 repeat'(first|refine Ex.cutS 2 134 2 [(1,.s (.ptr (some (0,0)))),(2,bV false),(3,.s (.ptr (some (1,0))))] [(0,some {cells:=[.int .i64 sp,.int .u64 ba,.int .u64 ln,.int .i64 bit,.int .i64 len,.int .i64 wid,.int .i64 upd,.int .i64 idx,.int .i64 dat],ty:=84}),(1,some {cells:=[.int .i64 sp,.int .u64 ba,.int .u64 ln],ty:=82})] rfl (Hold.k ?_) (Hold.k ?_)|exact y0|refine y1 ?_|refine y2 ?_ ?_|refine y4 λh=>?_|refine y3 ?_|exact y5|fail)
 ·refine⟨?_⟩
  repeat'(first|exact y0|refine y1 ?_|refine y2 ?_ ?_|refine y4 λh=>?_|refine y3 ?_|exact y5|fail)
  all_goals exact CutR.at [0,1] rfl rfl ⟨VLe.refl _,VLe.refl _,VLe.refl _,trivial⟩ ⟨rfl,rfl,trivial⟩ rfl
 refine⟨?_⟩;by_cases c1:(sp=3/\wid≠1)\/ba.tmod wid≠0
 ·have e:eW sp ba ln bit len wid upd=false:=by
   cases e:eW sp ba ln bit len wid upd
   ·rfl
   ·exact absurd c1 (hv.1 e).2.1
  rw[e];clear hv g1 g2 e
  repeat'(first|exact y0|refine y1 ?_|refine y2 ?_ ?_|refine y4 λh=>?_|refine Fin.bool (.inl rfl) rfl ?_|refine y3 ?_|exact y5|fail)
 have c2:sp=3->wid=1:=λh=>Z4o λe=>c1 (.inl ⟨h,e⟩)
 have c3:ba.tmod wid=0:=Z4o λe=>c1 (.inr e)
 have hvo:=hv;clear hv
 have hv:eW sp ba ln bit len wid upd=true↔(bit+len-1)/(8*wid)<ln/wid:=by
  rw[hvo,g1,g2];exact⟨λh=>h.2.2.2,λh=>⟨rfl,c1,aa,h⟩⟩
 clear hvo;generalize eW sp ba ln bit len wid upd=r at hv |-;clear c1
 repeat'(first|refine Ex.cutS 6 134 2 [(1,.s (.ptr (some (0,0)))),(2,bV false),(3,.s (.ptr (some (1,0))))] [(0,some {cells:=[.int .i64 sp,.int .u64 ba,.int .u64 ln,.int .i64 bit,.int .i64 len,.int .i64 wid,.int .i64 upd,.int .i64 idx,.int .i64 dat],ty:=84}),(1,some {cells:=[.int .i64 sp,.int .u64 ba,.int .u64 ln],ty:=82})] rfl (Hold.k ?_) (Hold.k ?_)|exact y0|refine y1 ?_|refine y2 ?_ ?_|refine y4 λh=>?_|refine y3 ?_|exact y5|fail)
 all_goals refine⟨?_⟩
 all_goals
  repeat'(first|exact y0|refine y1 ?_|refine y2 ?_ ?_|refine y4 λh=>?_|exact xq aa aa aa|refine Fin.bool (.inl rfl) rfl ?_|refine y3 ?_|exact y5|fail)
 all_goals try exact CutR.at [0,1] rfl rfl ⟨VLe.refl _,VLe.refl _,VLe.refl _,trivial⟩ ⟨rfl,rfl,trivial⟩ rfl
 all_goals try rw[g2]
 all_goals try rw[g2] at*
 all_goals clear g1 g2 c2 c3 b3 h1
 all_goals rcases hw with e|e|e|e<;>subst e<;>first
  |exact ae aa aa
  |exact aj aa aa
  |(cases r
    ·exact absurd (hv.2 aa) an
    ·rfl)
  |(cases r
    ·rfl
    ·exact absurd (hv.1 rfl) aa)
section
variable {i:Nat}
def ij (op:Int):Bool:=decide (10<=op/\op<=21)
def dC (p:List Nd) (t:Fo) (j:Nat) (a:Inf) (s:St) (i:Nat):St:=
 if ij (p.getD i dN).op then (bO (p.getD i dN) (ao (t.kid j i)) i (bf t j i a).sc s).2 else s
theorem eo {α β:Type} {f g:β->α->β}:∀ {l:List α} {s:β},(∀ i∈l,∀ s,f s i=g s i)->l.foldl f s=l.foldl g s
 |[],_,_=>rfl
 |i::l,s,h=>by
  simp only[Z2s];rw[h i (Z17 ..),eo λj hj=>h j (Z0y _ hj)]
theorem rU {α β:Type} {f:β->α->β}:∀ {l:List α} {s:β},(∀ i∈l,∀ s,f s i=s)->l.foldl f s=s
 |[],_,_=>rfl
 |i::l,s,h=>by
  simp only[Z2s];rw[h i (Z17 ..),rU λj hj=>h j (Z0y _ hj)]
section
variable {p:List Nd}
theorem lO {x:Nd} {k n:Fo} {j:Nat} (ha:(Fo.cons x k n).At p j) (a:Inf) (s:St):
 (List.range' j (Fo.cons x k n).size).foldl (dC p (.cons x k n) j a) s=
   (List.range' (j+1+k.size) n.size).foldl (dC p n (j+1+k.size) a) ((List.range' (j+1) k.size).foldl (dC p k (j+1) (bc x (ao k) j a)) (dC p (.cons x k n) j a s j)):=by
 have e:List.range' j (Fo.cons x k n).size=j::(List.range' (j+1) k.size++List.range' (j+1+k.size) n.size):=by
  simp only[Fo.size];rw[show 1+k.size+n.size=(k.size+n.size)+1 by omega,Z31,Z5z]
 rw[e,Z2s,Z4a];rw[eo (f:=dC p (.cons x k n) j a) (g:=dC p k (j+1) (bc x (ao k) j a)) (l:=List.range' (j+1) k.size)]
 ·refine eo λi hi s=>?_
  have:=Z20.1 hi;unfold dC;have h1: ¬i=j:=aa;have h2: ¬i<j+1+k.size:=aa;simp only[Fo.kid,bf,if_neg h1,if_neg h2]
 ·intro i hi s
  have:=Z20.1 hi;unfold dC;have h1: ¬i=j:=aa;have h2:i<j+1+k.size:=aa;simp only[Fo.kid,bf,if_neg h1,if_pos h2]
theorem wF {t:Fo} {j:Nat} (ha:t.At p j) (hq:t.all quiet) (a:Inf) (s:St):(List.range' j t.size).foldl (dC p t j a) s=s:=by
 refine rU λi hi s=>?_
 have:=Z20.1 hi;have hx:=Fo.all_at ha hq (aa:j<=i) aa;unfold dC ij;rw[if_neg];unfold quiet at hx;simp only[decide_eq_true_eq];omega
theorem Fy {x:Nd} {nm:Pth} {a:Inf} {s:St}:(bO x nm i a.sc s).1=(bc x nm i a).sc:=by
 unfold bO bc;simp only;by_cases h10:x.op=10
 ·rw[if_pos h10]
  cases h:(aq a.sc nm).2<;>simp[h10]
 ·rw[if_neg h10]
  by_cases h2:x.op=11\/x.op=12
  ·rw[if_neg (show ¬(x.op=16\/x.op=17\/x.op=19) by omega)]
   cases h:(aq a.sc nm).2<;>simp[h10,h2]
  ·rw[if_neg (show ¬((x.op=10\/x.op=11\/x.op=12)/\(aq a.sc nm).2=true) from λq=>by omega)]
   split
   ·rfl
   ·split
    ·simp[h2]
    ·rfl
theorem gM {op kids c:Int} (h:bn c op=true) (hc:c=68\/c=70) (hb:fM op=false):∀ b∈(av op kids).1,qK (b.toNat:Int)=true:=by
 unfold fM at hb;simp only[decide_eq_false_iff_not] at hb
 have:op=13\/op=14\/op=15\/op=18\/op=19\/op=20\/op=21:=by
  rcases kZ hc h with e|e|e|e|e|e|e|e|e|e|e|e<;>omega
 rcases this with e|e|e|e|e|e|e<;>rw[e]
 ·exact λb hb=>(ac:∀ b∈(av 13 0).1,qK (b.toNat:Int)=true) b hb
 ·exact λb hb=>(ac:∀ b∈(av 14 0).1,qK (b.toNat:Int)=true) b hb
 ·exact λb hb=>(ac:∀ b∈(av 15 0).1,qK (b.toNat:Int)=true) b hb
 ·exact λb hb=>(ac:∀ b∈(av 18 0).1,qK (b.toNat:Int)=true) b hb
 ·exact λb hb=>(ac:∀ b∈(av 19 0).1,qK (b.toNat:Int)=true) b hb
 ·exact λb hb=>(ac:∀ b∈(av 20 0).1,qK (b.toNat:Int)=true) b hb
 ·exact λb hb=>(ac:∀ b∈(av 21 0).1,qK (b.toNat:Int)=true) b hb
theorem fq {c':Int}:∀ (ls:List Int) (t:Fo) (j:Nat) (a:Inf) (s:St),ls.all d8=true->t.At p j->t.V (ls.map (λc=>(false,c))++[(true,c')])->
 (∀ (bl:Fo) (i:Nat) (s:St) (b:Inf),bl.At p i->bl.V (List.replicate bl.cnt (false,c'))->b.sc=a.sc->bl.size<t.size->aQ false bl i a.sc s=(List.range' i bl.size).foldl (dC p bl i b) s)->
 aQ true t j a.sc s=(List.range' j t.size).foldl (dC p t j a) s
 |[],t,j,a,s,_,ha,hv,ih=>by
  obtain⟨y,bl,n,rfl,h1,h2,h3⟩:=iZ hv;have:=gS h1;subst this;rw[lO ha]
  have hst:dC p (.cons y bl .nil) j a s j=s:=by
   unfold dC ij;rw[At.get ha,h2,if_neg ac]
  rw[hst]
  have hsc:(bc y (ao bl) j a).sc=a.sc:=by
   unfold bc;simp only;rw[if_neg (λq=>by have:=q.1;omega)]
  have:=ih bl (j+1) s (bc y (ao bl) j a) ha.2.2.1 h3 hsc (by simp only[Fo.size];omega);simp only[aQ,h2,if_true,Fo.size,Z50,Z5x];exact this
 |c::ls,t,j,a,s,hl,ha,hv,ih=>by
  simp only[Z1b,Z07] at hl;obtain⟨y,n,rfl,h1,hop⟩:=d6 hl.1 hv;rw[lO ha]
  have hst:dC p (.cons y .nil n) j a s j=s:=by
   unfold dC ij;rw[At.get ha,if_neg];simp only[decide_eq_true_eq];omega
  rw[hst];have: ¬y.op=4:=aa;simp only[aQ,if_neg this,Fo.size,Z0p,Z50,Z5x]
  have hn:n.At p (j+1):=by have:=ha.2.2.2;simpa [Fo.size] using this
  exact fq ls n (j+1) a s hl.2 hn h1 (λbl i s b g1 g2 g3 g4=>ih bl i s b g1 g2 g3 (by simp only[Fo.size];omega))
theorem jU:∀ (N:Nat) (t:Fo) (c:Int) (j:Nat) (a:Inf) (s:St),t.size<N->(c=68\/c=70)->t.At p j->t.V (List.replicate t.cnt (false,c))->aQ false t j a.sc s=(List.range' j t.size).foldl (dC p t j a) s
 |0,_,_,_,_,_,h,_,_,_=>absurd h (Z1m _)
 |N+1,.nil,_,_,_,_,_,_,_,_=>rfl
 |N+1,.cons x k n,c,j,a,s,hN,hc,ha,hv=>by
  simp only[Fo.size] at hN;have hv':=hv;simp only[Fo.cnt,Z16] at hv';obtain⟨⟨h1,h2,h3⟩,h4,h5⟩:=hv';rw[lO ha];simp only[aQ];have hd:=kZ hc h1
  have hst:dC p (.cons x k n) j a s j=(bO x (ao k) j a.sc s).2:=by
   unfold dC ij;rw[At.get ha,if_pos (by simp only[decide_eq_true_eq];omega)];simp only[Fo.kid,bf,if_true]
  rw[hst]
  have hk:(if fM x.op then aQ true k (j+1) (bO x (ao k) j a.sc s).1 (bO x (ao k) j a.sc s).2 else (bO x (ao k) j a.sc s).2)=(List.range' (j+1) k.size).foldl (dC p k (j+1) (bc x (ao k) j a)) (bO x (ao k) j a.sc s).2:=by
   cases hb:fM x.op
   ·simp only[Z0l,if_false]
    rw[wF ha.2.2.1]
    refine eC h4 λsl hsl=>?_
    obtain⟨b,hb',rfl⟩:=Z1d.1 hsl;exact gM h1 hc hb b hb'
   ·simp only[if_true]
    rw[Fy]
    have ih:∀ (c':Int),(c'=68\/c'=70)->∀ (bl:Fo) (i:Nat) (s:St) (b:Inf),bl.At p i->bl.V (List.replicate bl.cnt (false,c'))->b.sc=(bc x (ao k) j a).sc->bl.size<k.size->aQ false bl i (bc x (ao k) j a).sc s=(List.range' i bl.size).foldl (dC p bl i b) s:=λc' hc' bl i s b g1 g2 g3 g4=>by
     rw[<-g3];exact jU N bl c' i b s aa hc' g1 g2
    unfold fM at hb;simp only[decide_eq_true_eq] at hb
    rcases hb with e|e|e|e|e<;>rw[e] at h4
    ·exact fq (c':=68) [110] k (j+1) _ _ rfl ha.2.2.1 h4 (ih 68 (.inl rfl))
    ·exact fq (c':=68) [115] k (j+1) _ _ rfl ha.2.2.1 h4 (ih 68 (.inl rfl))
    ·exact fq (c':=68) [115,105,105] k (j+1) _ _ rfl ha.2.2.1 h4 (ih 68 (.inl rfl))
    ·exact fq (c':=70) [110,105,105] k (j+1) _ _ rfl ha.2.2.1 h4 (ih 70 (.inr rfl))
    ·exact fq (c':=70) [110,110,105,105] k (j+1) _ _ rfl ha.2.2.1 h4 (ih 70 (.inr rfl))
  rw[hk];exact jU N n c (j+1+k.size) a _ aa hc ha.2.2.2 h5
end
section
variable {p:List Nd} {t:Fo}
def mf (p:List Nd) (t:Fo) (s:St) (i:Nat):St:=if ij (p.getD i dN).op then (bO (p.getD i dN) (ao (t.kid 0 i)) i (aC t i).sc s).2 else s
theorem DI (ha:t.At p 0) (hv:t.V (List.replicate t.cnt (false,68))):anS p t=(List.range t.size).foldl (mf p t) (sU p):=by
 have:=jU (p:=p) (t.size+1) t 68 0 ini (sU p) (Z1t _) (.inl rfl) ha hv;rw[Z4g];exact this
def BM (p:List Nd) (t:Fo) (i:Nat):Bool:=(aq (aC t i).sc (ao (t.kid 0 i))).2
def bF (p:List Nd) (t:Fo) (i:Nat):By:=(jL p t i).path
theorem CC {q:Pth} (h:bz q=true):aI q≠[]:=by
 unfold bz at h;simp only[Z07] at h;unfold aI;rw[if_pos h.2,if_pos h.1];simp
theorem nZ (ha:t.At p 0) (hi:i<t.size):bF p t i=if bQ (p.getD i dN).op=true/\BM p t i=true then aI (aq (aC t i).sc (ao (t.kid 0 i))).1 else []:=by
 unfold bF jL mK BM;split
 ·rfl
 ·exact u_ ha hi
theorem nY (ha:t.At p 0) (hi:i<t.size):bF p t i≠[]↔bQ (p.getD i dN).op=true/\BM p t i=true:=by
 rw[nZ ha hi];split
 ·rename_i h
  exact⟨λ_=>h,λ_=>CC (xg h.2)⟩
 ·rename_i h
  exact⟨λq=>absurd rfl q,λq=>absurd q h⟩
def JL (p:List Nd) (t:Fo) (i:Nat):List Dc:=if bF p t i=[] then [] else [⟨bF p t i,(p.getD i dN).op,i⟩]
def ie (p:List Nd) (t:Fo) (i:Nat):Bool:=(bQ (p.getD i dN).op||decide ((p.getD i dN).op=10))&& !BM p t i
theorem qQ (ha:t.At p 0) (hi:i<t.size) (s:St):(mf p t s i).D=s.D++JL p t i/\(mf p t s i).F=(if bF p t i=[] then s.F else pL s.F (bF p t i) i)/\
 (mf p t s i).G=(if ie p t i then s.G++[(i,2)] else if bF p t i=[] then s.G else k8 s.F s.G (bF p t i) i)/\(mf p t s i).S=if ij (p.getD i dN).op then s.S.set i (aC t i).sc else s.S:=by
 have hne:=nY ha hi;have heq:=nZ ha hi;unfold JL ie;generalize hP:bF p t i=P at*;unfold mf BM at*;unfold ij bQ at*;generalize (p.getD i dN)=x at*;generalize ao (t.kid 0 i)=nm at*;generalize (aC t i).sc=sc at*;by_cases hd:10<=x.op/\x.op<=21
 ·rw[decide_eq_true hd]
  simp only[if_true];unfold bO;by_cases h10:x.op=10
  ·rw[if_pos h10]
   rw[if_neg (λh=>by have:=h.1;simp only[decide_eq_true_eq] at this;omega)] at heq;subst heq
   cases hj:(aq sc nm).2<;>simp[h10,St.sc,St.rep]
  ·rw[if_neg h10]
   by_cases h16:x.op=16\/x.op=17\/x.op=19
   ·rw[if_pos h16]
    rw[if_neg (λh=>by have:=h.1;simp only[decide_eq_true_eq] at this;omega)] at heq;subst heq;have hdf:decide (11<=x.op/\x.op<=15\/x.op=18\/x.op=20\/x.op=21)=false:=decide_eq_false aa;simp[h10,hdf,St.sc]
   ·rw[if_neg h16]
    have hdt:decide (11<=x.op/\x.op<=15\/x.op=18\/x.op=20\/x.op=21)=true:=decide_eq_true aa;rw[hdt] at heq hne |-;cases hj:(aq sc nm).2
    ·rw[if_neg (by rw[hj];simp)] at heq
     subst heq;simp[St.sc,St.rep]
    ·rw[if_pos ⟨rfl,hj⟩] at heq
     have hn:P≠[]:=hne.2 ⟨rfl,hj⟩;rw[if_neg hn,if_neg hn,if_neg hn];simp[St.sc,St.dec,heq]
 ·rw[decide_eq_false hd]
  have hdf:decide (11<=x.op/\x.op<=15\/x.op=18\/x.op=20\/x.op=21)=false:=decide_eq_false aa;rw[hdf] at heq hne |-;rw[if_neg (λh=>by cases h.1)] at heq;subst heq;have h10: ¬x.op=10:=aa;simp[h10]
def qR (p:List Nd) (t:Fo) (m:Nat):St:=(List.range m).foldl (mf p t) (sU p)
theorem lx (m:Nat):qR p t (m+1)=mf p t (qR p t m) m:=by
 unfold qR;rw[Z3a,Z4a];rfl
def cQ (p:List Nd) (t:Fo) (path:By):Nat->Option Nat
 |0=>none
 |m+1=>match cQ p t path m with|some i=>some i|none=>if bF p t m=path then some m else none
theorem Cf (F:List (By×Nat)) (k path:By) (i:Nat):pH (F++[(k,i)]) path=match pH F path with|some v=>some v|none=>if k=path then some i else none:=by
 induction F with
 |nil=>simp only[Z1e,pH]
 |cons a F ih=>
  obtain⟨q,v⟩:=a;simp only[Z25,pH];split
  ·rfl
  ·exact ih
theorem vI (ha:t.At p 0) {path:By} (hp:path≠[]):∀ {m:Nat},m<=t.size->pH (qR p t m).F path=cQ p t path m
 |0,_=>rfl
 |m+1,h=>by
  have ih:=vI ha hp (m:=m) aa;rw[lx,(qQ ha aa _).2.1];simp only[cQ]
  by_cases he:bF p t m=[]
  ·rw[if_pos he,ih]
   cases cQ p t path m with
   |some v=>rfl
   |none=>simp only;rw[if_neg (λq=>hp (by rw[<-q,he]))]
  ·rw[if_neg he]
   unfold pL;split
   ·rename_i v hv
    rw[ih]
    cases hf:cQ p t path m with
    |some v=>rfl
    |none=>
     simp only;rw[if_neg];intro q;rw[q,ih,hf] at hv;cases hv
   ·rw[Cf,ih]
theorem gi {path:By}:∀ {m i:Nat},cQ p t path m=some i->i<m/\bF p t i=path/\∀ k,k<i->bF p t k≠path
 |0,_,h=>by cases h
 |m+1,i,h=>by
  simp only[cQ] at h;split at h
  ·rename_i v hv
   cases h;have:=gi hv;exact⟨aa,this.2⟩
  ·rename_i hn
   split at h
   ·rename_i he
    cases h;refine⟨Z1t _,he,λk hk hc=>?_⟩
    have:∀ m,cQ p t path m=none->∀ k,k<m->bF p t k≠path:=by
     intro m
     induction m with
     |zero=>intro _ k hk;omega
     |succ m ih=>
      intro h k hk;simp only[cQ] at h;split at h
      ·cases h
      ·rename_i h0
       split at h
       ·cases h
       ·rename_i h1
        rcases Z0a k m with q|q
        ·exact ih h0 k q
        ·rw[show k=m by omega];exact h1
    exact this m hn k hk hc
   ·cases h
theorem iS {path:By}:∀ {m:Nat},cQ p t path m=none->∀ k,k<m->bF p t k≠path
 |0,_,k,hk=>by omega
 |m+1,h,k,hk=>by
  simp only[cQ] at h;split at h
  ·cases h
  ·rename_i h0
   split at h
   ·cases h
   ·rename_i h1
    rcases Z0a k m with q|q
    ·exact iS h0 k q
    ·rw[show k=m by omega];exact h1
def mO (p:List Nd) (t:Fo) (i:Nat):Bool:=decide (bF p t i≠[])&&(cQ p t (bF p t i) i).isSome
def Aa (p:List Nd) (t:Fo) (i:Nat):List (Nat×Nat):=if ie p t i then [(i,2)] else if mO p t i then [(i,3)] else []
theorem DC (ha:t.At p 0) (hi:i<t.size) (h:ie p t i=true):bF p t i=[]:=by
 rw[nZ ha hi,if_neg];unfold ie at h;simp only[Z07,Z0v] at h;rintro⟨_,h2⟩;rw[h.2] at h2;cases h2
theorem AY (ha:t.At p 0):∀ {m:Nat},m<=t.size->(qR p t m).G=(List.range m).flatMap (Aa p t)
 |0,_=>rfl
 |m+1,h=>by
  have ih:=AY ha (m:=m) aa;rw[lx,(qQ ha aa _).2.2.1,Z3a,Z0r,<-ih];simp only[Z0g,List.flatMap_nil,Z0u];unfold Aa;split
  ·rfl
  ·unfold mO
   by_cases he:bF p t m=[]
   ·rw[if_pos he];simp[he]
   ·rw[if_neg he]
    unfold k8;rw[vI ha he aa]
    cases hf:cQ p t (bF p t m) m<;>simp[he]
theorem AX (ha:t.At p 0):∀ {m:Nat},m<=t.size->(qR p t m).S.length=p.length/\∀ i,i<m->i<p.length->ij (p.getD i dN).op=true->(qR p t m).S.getD i z0=(aC t i).sc
 |0,_=>⟨by simp[qR,sU],λi hi=>by omega⟩
 |m+1,h=>by
  obtain⟨ih1,ih2⟩:=AX ha (m:=m) aa;rw[lx,(qQ ha aa _).2.2.2];refine⟨by split<;>simp[ih1],λi hi hip hd=>?_⟩;by_cases e:m=i
  ·subst e
   rw[if_pos hd,Z00,Z1i,if_pos rfl,if_pos aa];rfl
  ·split
   ·rw[Z00,Z1i,if_neg e,<-Z00]
    exact ih2 i aa hip hd
   ·exact ih2 i aa hip hd
end
end
section
variable {c op kids:Int} {i:Nat} {sl:Bool×Int}
theorem lI {Q:Int->UInt8->Bool} (h1:∀ op∈opsL,(cE op).2.all (Q op)=true) (h5:Q 5 101=true) (h33:Q 33 101=true) (h31:(Q 31 101&&Q 31 83)=true) (h:bn c op=true):∀ b∈(av op kids).1,Q op b=true:=by
 have he7:∀ n:Nat,∀ b∈e7.take n,b=101:=λn b hb=>by
  have:=Z2x hb;unfold e7 at this
  simpa using this
 unfold av;split
 ·rename_i e;subst e
  split
  ·intro b hb;simp at hb
  ·intro b hb;rw[he7 _ b hb];exact h5
 ·split
  ·rename_i e;subst e
   split
   ·intro b hb;simp at hb
   ·intro b hb;rw[he7 _ b hb];exact h33
  ·split
   ·rename_i e
    obtain⟨e,_⟩:=e;subst e;simp only[Z07] at h31
    intro b hb;simp at hb;rcases hb with rfl|rfl
    ·exact h31.1
    ·exact h31.2
   ·rename_i n5 n33 n31
    rcases nv h with h|h
    ·exact λb hb=>Z0i.1 (h1 op h) b hb
    ·rcases h with rfl|rfl|rfl|rfl|rfl|rfl
     all_goals
      first
       |exact absurd rfl n5
       |(rw[show (cE _).2=[] by decide+kernel];intro b hb;simp at hb)
def GC (op:Int) (b:UInt8):Bool:=decide (b≠70)||decide (op=16\/op=17)
def xT (op:Int) (b:UInt8):Bool:=(decide (b≠83)||decide (op=14\/op=31\/op=32))&&(decide (b≠101/\b≠116)||decide (op=5\/30<=op/\op<=42\/60<=op/\op<=88))
theorem ws (h:bn c op=true):∀ b∈(av op kids).1,GC op b=true:=lI (by decide+kernel) ac ac ac h
theorem jN (h:bn c op=true):∀ b∈(av op kids).1,xT op b=true:=lI (by decide+kernel) ac ac ac h
theorem eb {ks:By} (h:sl∈dd ks):∃ b∈ks,sl=(dh (b.toNat:Int),(b.toNat:Int)):=by
 obtain⟨b,hb,e⟩:=Z1d.1 h;exact⟨b,hb,e.symm⟩
abbrev mE (p:List Nd) (t:Fo) (j:Nat) (sl:Bool×Int):Prop:=(Fo.cons (p.getD j dN) (t.kid 0 j) .nil).V [sl]
theorem dG {p:List Nd}:∀ {t:Fo} {j i:Nat} {cs:List (Bool×Int)},t.At p j->t.V cs->i∈t.starts j->∃ sl∈cs,(Fo.cons (p.getD i dN) (t.kid j i) .nil).V [sl]
 | .nil,_,_,_,_,_,h=>by simp[Fo.starts] at h
 | .cons x k n,j,i,cs,ha,hv,h=>by
   simp only[Fo.starts,Z0h] at h;have hx:=At.get ha
   obtain⟨sl,cs',rfl,hv1,hv2⟩:∃ sl cs',cs=sl::cs'/\(Fo.cons x k .nil).V [sl]/\n.V cs':=by
    match cs,hv with
    |(true,c)::cs',⟨h1,h2,h3⟩=>exact⟨_,_,rfl,⟨h1,h2,trivial⟩,h3⟩
    |(false,c)::cs',⟨h1,h2,h3⟩=>exact⟨_,_,rfl,⟨h1,h2,trivial⟩,h3⟩
   unfold Fo.kid;by_cases e:i=j
   ·subst e
    rw[if_pos rfl,hx];exact⟨sl,Z17 ..,hv1⟩
   ·have h:=h.resolve_left e
    have:=bD h;rw[if_neg e,if_neg aa];obtain⟨s,hs,g⟩:=dG ha.2.2.2 hv2 h;exact⟨s,Z0y _ hs,g⟩
section
variable {p:List Nd} {t:Fo}
theorem ka (ha:t.At p 0) (hi:i<t.size) (hv:mE p t i sl) {cs:List (Bool×Int)} (hvt:t.V cs) {j:Nat} (hj:j∈(t.kid 0 i).starts (i+1)):
 ∃ sl',mE p t j sl'/\((sl.1=true/\sl'=(false,sl.2)/\(p.getD i dN).op=4)\/(sl.1=false/\bn sl.2 (p.getD i dN).op=true/\sl'∈dd (av (p.getD i dN).op (p.getD i dN).kids).1)):=by
 obtain⟨_,h1,_⟩:=cC ha hvt (Z08 i) (aa:i<0+t.size);have hk:=h1.2.2.1;have hr:=bD hj;have e:=(cl ha (Z08 i) aa (aa:i<j) aa ini).1;obtain⟨b,c⟩:=sl;unfold mE;rw[e];cases b
 ·obtain⟨s,hs,g⟩:=dG hk hv.2.1 hj
  exact⟨s,g,.inr ⟨rfl,hv.1.1,hs⟩⟩
 ·obtain⟨s,hs,g⟩:=dG hk hv.2.1 hj
  have:=(Z3b.1 hs).2;subst this;exact⟨_,g,.inl ⟨rfl,rfl,hv.1.1⟩⟩
theorem J2:bn c 4=false:=by
 unfold bn
 repeat' (first|rfl|split)
theorem gP (hv:mE p t i sl):sl.1=true↔(p.getD i dN).op=4:=by
 obtain⟨b,c⟩:=sl;cases b
 ·refine⟨λh=>(by cases h),λh=>?_⟩
  have:=hv.1.1;rw[h,J2] at this;cases this
 ·exact⟨λ_=>hv.1.1,λ_=>rfl⟩
theorem gC (ha:t.At p 0) (hv:t.V (List.replicate t.cnt (false,68))) {j:Nat} (hj:j<t.size):
 ∃ sl,mE p t j sl/\((aC t j=ini/\sl=(false,68))\/∃ m slm,m<j/\aC t j=bc (p.getD m dN) (ao (t.kid 0 m)) m (aC t m)/\j∈(t.kid 0 m).starts (m+1)/\mE p t m slm/\
   ((slm.1=true/\sl=(false,slm.2)/\(p.getD m dN).op=4)\/(slm.1=false/\bn slm.2 (p.getD m dN).op=true/\sl∈dd (av (p.getD m dN).op (p.getD m dN).kids).1))):=by
 rcases er ha hj with ⟨h1,h2⟩|⟨m,h2,h3,h4⟩
 ·obtain⟨sl,hs,g⟩:=dG ha hv h1
  exact⟨sl,g,.inl ⟨h2,(Z3b.1 hs).2⟩⟩
 ·obtain⟨slm,_,hm⟩:=cC ha hv (Z08 m) (aa:m<0+t.size)
  obtain⟨sl,g1,g2⟩:=ka ha aa hm hv h4;exact⟨sl,g1,.inr ⟨m,slm,h2,(eB ha aa h4).2.2,h4,hm,g2⟩⟩
theorem vk (h:bn c 18=true):c=70:=by
 unfold bn at h
 repeat' (first|(split at h)|(first|exact absurd h ac|assumption))
theorem ma (h:bn 70 op=true):op=18\/op=19:=by
 unfold bn at h;simp[cx] at h;omega
theorem gV (ha:t.At p 0) {m:Nat} (hm:m<t.size) (hi:m<i) (hi2:i<m+1+(t.kid 0 m).size):i+1+(t.kid 0 i).size<=m+1+(t.kid 0 m).size:=by
 rw[(cl ha (Z08 m) aa hi hi2 ini).1];exact bm aa aa
theorem xw (ha:t.At p 0) (hv:t.V (List.replicate t.cnt (false,68))) (hi:i<t.size) (hop:(p.getD i dN).op=18):
 ∃ f b:Nat,f<b/\b<i/\(aC t i).pa=(b:Int)/\(aC t b).pa=(f:Int)/\(p.getD b dN).op=4/\((p.getD f dN).op=16\/(p.getD f dN).op=17)/\i∈(t.kid 0 b).starts (b+1)/\b∈(t.kid 0 f).starts (f+1)/\
   ∀ k∈(t.kid 0 b).starts (b+1),(p.getD k dN).op=18\/(p.getD k dN).op=19:=by
 obtain⟨sl,h1,h2⟩:=gC ha hv hi
 have hs:sl=(false,70):=by
  obtain⟨b,c⟩:=sl
  have hb:b=false:=by
   cases b
   ·rfl
   ·exact absurd ((gP h1).1 rfl) (by rw[hop];decide)
  subst hb;have:=vk (by have:=h1.1.1;rwa [hop] at this);rw[this]
 subst hs
 rcases h2 with ⟨_,h⟩|⟨b,slm,hbi,hcb,hib,hnb,h⟩
 ·cases h
 have hb4:(p.getD b dN).op=4:=by
  rcases h with ⟨_,_,h⟩|⟨_,_,h⟩
  ·exact h
  ·obtain⟨x,_,e⟩:=eb h
   simp only[Z0j] at e;rw[<-e.2] at e;exact absurd e.1 ac
 obtain⟨sb,g1,g2⟩:=gC ha hv (show b<t.size by omega);have hsb:=(gP g1).2 hb4
 have hacc:∀ k∈(t.kid 0 b).starts (b+1),bn sb.2 (p.getD k dN).op=true:=λk hk=>by
  obtain⟨s',q1,q2⟩:=ka ha aa g1 hv hk
  rcases q2 with ⟨_,q,_⟩|⟨q,_⟩
  ·subst q;exact q1.1.1
  ·rw[hsb] at q;cases q
 have h70:sb.2=70:=vk (by have:=hacc i hib;rwa [hop] at this)
 rcases g2 with ⟨_,g⟩|⟨f,slf,hfb,hcf,hbf,hnf,g⟩
 ·rw[g] at hsb;cases hsb
 rcases g with ⟨_,g,_⟩|⟨_,g3,g4⟩
 ·rw[g] at hsb;cases hsb
 ·obtain⟨x,hx,e⟩:=eb g4
  have hx70:x=70:=by
   rw[e] at h70;have h70:(x.toNat:Int)=70:=h70;have:=Z39 (a:=x) (b:=70);exact this.1 (by simp;omega)
  have hq:=ws (kids:=(p.getD f dN).kids) g3 x hx;subst hx70;unfold GC at hq;simp at hq;refine⟨f,b,hfb,hbi,by rw[hcb];rfl,by rw[hcf];rfl,hb4,hq,hib,hbf,λk hk=>ma (by have:=hacc k hk;rwa [h70] at this)⟩
def qw (c:Int):Bool:=decide (c=83\/c=101\/c=116)
def vc (op:Int):Bool:=decide (op=5\/op=6\/op=7\/30<=op/\op<=42\/60<=op/\op<=88)
theorem vl (h:bn c op=true) (hop:vc op=true):qw c=true:=by
 unfold vc at hop;rw[decide_eq_true_eq] at hop;unfold qw;rw[decide_eq_true_eq];unfold bn at h;split at h
 ·simp at h;omega
 split at h
 ·simp at h;omega
 split at h
 ·omega
 split at h
 ·omega
 split at h
 ·simp[bN] at h;omega
 split at h
 ·simp[bN] at h;omega
 split at h
 ·simp[cx] at h;omega
 split at h
 ·simp[cx] at h;omega
 split at h
 ·omega
 ·cases h
theorem xS (h:xT op 83=true):op=14\/op=31\/op=32:=by
 unfold xT at h;simp at h;exact h
theorem yG (ha:t.At p 0) (hv:t.V (List.replicate t.cnt (false,68))):∀ (i:Nat),i<t.size->vc (p.getD i dN).op=true->∃ M:Nat,M<i/\(aC t i).me=(M:Int)/\(p.getD M dN).op=14/\i<M+1+(t.kid 0 M).size:=by
 intro i
 induction i using Nat.strongRecOn with
 |ind i ih=>
  intro hi hb
  have h4: ¬(p.getD i dN).op=4:=by intro e;rw[e] at hb;revert hb;decide
  obtain⟨sl,h1,h2⟩:=gC ha hv hi
  have hs1:sl.1=false:=by
   cases e:sl.1
   ·rfl
   ·exact absurd ((gP h1).1 e) h4
  obtain⟨sb,sc⟩:=sl;simp only at hs1;subst hs1;have hbk:qw sc=true:=vl h1.1.1 hb;have hbk':=hbk;unfold qw at hbk';rw[decide_eq_true_eq] at hbk'
  rcases h2 with ⟨_,hsl⟩|⟨m,slm,hmi,hc,him,hnm,h⟩
  ·simp only[Z0j,true_and] at hsl;omega
  have hri:=bD him
  have hme:(p.getD m dN).op≠14->(aC t i).me=(aC t m).me:=λhne=>by rw[hc];unfold bc;simp only;rw[if_neg hne]
  rcases h with ⟨_,hsl,hm4⟩|⟨_,hacc,hsl⟩
  ·obtain⟨slm',g1,g2⟩:=gC ha hv (show m<t.size by omega)
   have hsm:=(gP g1).2 hm4
   have hbm:qw slm'.2=true:=by
    obtain⟨s',q1,q2⟩:=ka ha aa g1 hv him
    rcases q2 with ⟨_,q,_⟩|⟨q,_⟩
    ·subst q;exact vl q1.1.1 hb
    ·rw[hsm] at q;cases q
   rcases g2 with ⟨_,g⟩|⟨f,slf,hfm,hcf,hmf,hnf,g⟩
   ·rw[g] at hsm;cases hsm
   have hrm:=bD hmf
   rcases g with ⟨_,g,_⟩|⟨_,g3,g4⟩
   ·rw[g] at hsm;cases hsm
   obtain⟨x,hx,e⟩:=eb g4
   have hx83:x=83:=by
    rw[e] at hbm hsm;unfold qw at hbm;simp only[decide_eq_true_eq] at hbm;unfold dh at hsm;simp only[decide_eq_true_eq] at hsm;have:=Z39 (a:=x) (b:=83);exact this.1 (by simp;omega)
   have hq:=jN (kids:=(p.getD f dN).kids) g3 x hx;subst hx83;have hq:=xS hq;have hmm:=hme (by rw[hm4];decide);have hsub:=gV ha (show f<t.size by omega) hfm aa;by_cases hf14:(p.getD f dN).op=14
   ·refine⟨f,aa,?_,hf14,aa⟩
    rw[hmm,hcf];unfold bc;simp only;rw[if_pos hf14]
   ·obtain⟨M,k1,k2,k3,k4⟩:=ih f aa aa (by unfold vc;rw[decide_eq_true_eq];omega)
    have hsub2:=gV ha (show M<t.size by omega) k1 k4;refine⟨M,aa,?_,k3,aa⟩;rw[hmm,hcf,<-k2];unfold bc;simp only;rw[if_neg hf14]
  ·obtain⟨x,hx,e⟩:=eb hsl
   simp only[Z0j] at e;have hq:=jN (kids:=(p.getD m dN).kids) hacc x hx
   have hne: ¬sc=83:=by
    intro e83;rw[<-e.2,e83] at e;exact absurd e.1 ac
   have hxx:x=101\/x=116:=by
    rcases hbk' with h|h|h
    ·exact absurd h hne
    ·left;exact (Z39 (a:=x) (b:=101)).1 (by simp;omega)
    ·right;exact (Z39 (a:=x) (b:=116)).1 (by simp;omega)
   have hop:(p.getD m dN).op=5\/30<=(p.getD m dN).op/\(p.getD m dN).op<=42\/60<=(p.getD m dN).op/\(p.getD m dN).op<=88:=by
    unfold xT at hq
    rcases hxx with rfl|rfl<;>simpa using hq
   obtain⟨M,k1,k2,k3,k4⟩:=ih m aa aa (by unfold vc;rw[decide_eq_true_eq];omega);have hsub2:=gV ha (show M<t.size by omega) k1 k4;refine⟨M,aa,?_,k3,aa⟩;rw[hme aa,k2]
end
end
end Go.Proofs.YtegjgpldfgjoiaaGreatDoor
