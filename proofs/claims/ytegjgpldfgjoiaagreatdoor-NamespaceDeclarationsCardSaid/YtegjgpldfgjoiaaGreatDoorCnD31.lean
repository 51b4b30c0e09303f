import Derived.Test.YtegjgpldfgjoiaaGreatDoorCnD24
import Derived.Test.YtegjgpldfgjoiaaGreatDoorCnD28
set_option linter.all false
set_option maxHeartbeats 40000000
set_option maxRecDepth 100000
namespace Go.Proofs.YtegjgpldfgjoiaaGreatDoor
open Go Ab
section
variable {p:List Nd} {num:Int} {E:List Ent} {fs:List Fd}
abbrev DR:=List Ent×List Fd×Int
def m6 (i:Nat) (sc:Pth) (fs:List Fd) (R:List Ent×List Int×Int×Int):DR:=(R.1,tc i sc fs R,R.2.2.2)
def gW (p:List Nd) (num:Int) (x:Nd) (k:Fo) (i:Nat) (sc:Pth) (E:List Ent) (fs:List Fd) (rec:Pth->List Ent->List Fd->DR):DR:=
 if x.op=10 then (if (bY p (i+1) sc).2=false then (E,fs,6) else if (dS E (bY p (i+1) sc).1).2=false then (E,fs,6) else rec (bY p (i+1) sc).1 E fs)
 else if x.op=16 then m6 i sc fs (fp p num sc (ai p (i+4-2)) (ai p (i+4-1)) (am k) (i+4+1) E [] 0)
 else if x.op=17 then m6 i sc fs (fp p num sc (ai p (i+5-2)) (ai p (i+5-1)) (am k) (i+5+1) E [] 0)
 else if (bF p num E i sc).2.2.2≠0 then ((bF p num E i sc).1,fs,(bF p num E i sc).2.2.2)
 else if x.op=11\/x.op=12 then rec (bF p num E i sc).2.2.1 (bF p num E i sc).1 fs
 else ((bF p num E i sc).1,fs,0)
def aY (p:List Nd) (num:Int):Bool->Fo->Nat->Pth->List Ent->List Fd->DR
 |_,.nil,_,_,E,fs=>(E,fs,0)
 |true,.cons x k n,i,sc,E,fs=>if x.op=4 then aY p num false k (i+1) sc E fs else aY p num true n (i+1+k.size) sc E fs
 |false,.cons x k n,i,sc,E,fs=>
  if (gW p num x k i sc E fs λsc E fs=>aY p num true k (i+1) sc E fs).2.2=0
  then aY p num false n (i+1+k.size) sc (gW p num x k i sc E fs λsc E fs=>aY p num true k (i+1) sc E fs).1 (gW p num x k i sc E fs λsc E fs=>aY p num true k (i+1) sc E fs).2.1
  else gW p num x k i sc E fs λsc E fs=>aY p num true k (i+1) sc E fs
theorem qE {x:Nd} {k:Fo} {i:Nat} {sc:Pth}:aY p num false (.cons x k .nil) i sc E fs=gW p num x k i sc E fs λsc E fs=>aY p num true k (i+1) sc E fs:=by
 grind [aY]
theorem ti {x:Nd} {k n:Fo} {i:Nat} {sc:Pth}:aY p num false (.cons x k n) i sc E fs=
 if (aY p num false (.cons x k .nil) i sc E fs).2.2=0 then aY p num false n (i+1+k.size) sc (aY p num false (.cons x k .nil) i sc E fs).1 (aY p num false (.cons x k .nil) i sc E fs).2.1 else aY p num false (.cons x k .nil) i sc E fs:=by
 rw[qE];rfl
theorem eu {p:List Nd} {num c':Int}:∀ (ls:List Int) (t:Fo),(ls.all fY)=true->t.V (ls.map (λc=>(false,c))++[(true,c')])->∀ (i:Nat) (sc:Pth) (E:List Ent) (fs:List Fd),aY p num true t i sc E fs=aY p num false (am t) (i+ls.length+1) sc E fs
 |[],t,_,h,i,sc,E,fs=>by
  obtain⟨y,bl,n,rfl,h1,h2,h3⟩:=kJ h;have:=iO h1;subst this;rw[aY,if_pos h2];rfl
 |c::ls,t,hl,h,i,sc,E,fs=>by
  simp only[Z1b,Z07] at hl;obtain⟨y,n,rfl,h1,h2⟩:=fk hl.1 h;obtain⟨b,g3,_⟩:=aO ls n hl.2 h1
  have hn:am (.cons y .nil n)=am n:=by
   cases n with
   |nil=>simp only[Fo.size] at g3;omega
   |cons a b c=>rfl
  rw[aY,if_neg aa,hn,eu ls n hl.2 h1]
  grind [Fo.size]
theorem sC (k:Int):dj (aq 10 k).1=[(false,110)]++[(true,68)]:=rfl
theorem sB (k:Int):dj (aq 11 k).1=[(false,115)]++[(true,68)]:=rfl
theorem sA (k:Int):dj (aq 12 k).1=[(false,115),(false,105),(false,105)]++[(true,68)]:=rfl
theorem sD (k:Int):dj (aq 16 k).1=[(false,110),(false,105),(false,105)]++[(true,70)]:=rfl
theorem sw (k:Int):dj (aq 17 k).1=[(false,110),(false,110),(false,105),(false,105)]++[(true,70)]:=rfl
theorem fI {nt:Int} {Eo:List Nat}:e_ 6 (eL nt num p Eo E fs)=true:=by
 unfold eL lU;generalize List.flatMap kM fs=cg
 cases cg<;>rfl
section
variable (nt num:Int) (p:List Nd) (Eo:List Nat)
def DecP (N:Nat):Prop:=∀ (x:Nd) (k:Fo) (i:Nat) (sc:Pth) (E:List Ent) (fs:List Fd),k.size<N->(Fo.cons x k .nil).At p i->(Fo.cons x k .nil).V [(false,68)]->sc.root=true->fs.length+k.size<100000->
 FQ 126 [.s (.ptr (some (0,0))),nI i,jh sc] 6 (eL nt num p Eo E fs) (.s (.int .i64 (aY p num false (.cons x k .nil) i sc E fs).2.2)) 8 (yD nt num p Eo (aY p num false (.cons x k .nil) i sc E fs).1 (aY p num false (.cons x k .nil) i sc E fs).2.1)
def Fe (N:Nat):Prop:=∀ (t:Fo) (i:Nat) (sc:Pth) (E:List Ent) (fs:List Fd),t.size<=N->t.At p i->t.V (List.replicate t.cnt (false,68))->sc.root=true->fs.length+t.size<100000->
 FQ 69 [.s (.ptr (some (0,0))),nI i,nI (i+t.size:Nat),jh sc] 6 (eL nt num p Eo E fs) (.s (.int .i64 (aY p num false t i sc E fs).2.2)) 8 (yD nt num p Eo (aY p num false t i sc E fs).1 (aY p num false t i sc E fs).2.1)
def Ih (N:Nat):Prop:=∀ (x:Nd) (k:Fo) (i:Nat) (sc:Pth) (E:List Ent) (fs:List Fd),k.size<=N->(Fo.cons x k .nil).At p i->k.V (List.replicate k.cnt (false,68))->sc.root=true->fs.length+k.size<100000->
 FQ 185 [.s (.ptr (some (0,0))),nI i,jh sc] 6 (eL nt num p Eo E fs) (.s (.int .i64 (aY p num false k (i+1) sc E fs).2.2)) 8 (yD nt num p Eo (aY p num false k (i+1) sc E fs).1 (aY p num false k (i+1) sc E fs).2.1)
end
theorem tb (i:Nat) (sc:Pth) (fs:List Fd) (R:List Ent×List Int×Int×Int):(tc i sc fs R).length<=fs.length+1:=by
 unfold tc;split<;>simp
theorem gj {p:List Nd} {num:Int}:∀ (m:Bool) (t:Fo) (i:Nat) (sc:Pth) (E:List Ent) (fs:List Fd),(aY p num m t i sc E fs).2.1.length<=fs.length+t.size
 |_,.nil,_,_,E,fs=>by cases ‹Bool›<;>exact Z02 _
 |true,.cons x k n,i,sc,E,fs=>by
  rw[aY];simp only[Fo.size];split
  ·have:=gj (p:=p) (num:=num) false k (i+1) sc E fs;omega
  ·have:=gj (p:=p) (num:=num) true n (i+1+k.size) sc E fs;omega
 |false,.cons x k n,i,sc,E,fs=>by
  have ih:∀ sc E fs,(aY p num true k (i+1) sc E fs).2.1.length<=fs.length+k.size:=λsc E fs=>gj true k (i+1) sc E fs
  have h1:(gW p num x k i sc E fs λsc E fs=>aY p num true k (i+1) sc E fs).2.1.length<=fs.length+k.size+1:=by
   unfold gW m6
   repeat' split
   all_goals first
    |exact Nat.le_succ_of_le (ih _ _ _)
    |(have:=tb i sc fs (fp p num sc (ai p (i+4-2)) (ai p (i+4-1)) (am k) (i+4+1) E [] 0);simp only;omega)
    |(have:=tb i sc fs (fp p num sc (ai p (i+5-2)) (ai p (i+5-1)) (am k) (i+5+1) E [] 0);simp only;omega)
  rw[aY];simp only[Fo.size];generalize gW p num x k i sc E fs _=R at h1 |-;split
  ·have:=gj (p:=p) (num:=num) false n (i+1+k.size) sc R.1 R.2.1;omega
  ·omega
theorem Bq (nt num:Int) (p:List Nd) (Eo:List Nat) (hp:p.length<=2048) (hE:EOK p Eo) (N:Nat) (ih:DecP nt num p Eo N):Fe nt num p Eo N:=by
 intro t i sc E fs hN ha hv hsc hfs;generalize hR:aY p num false t i sc E fs=R;have hel:=hE.len;refine wW Tryz.func69 ?_
 repeat'(first|refine yA ?_|refine y2 ?_ ?_|exact y5|fail)
 refine Cy [0,1,2,3,4,5,4,5,6] 29 [(0,.s (.ptr (some (0,0)))),(2,nI (i+t.size:Nat)),(7,.s (.ptr (some (8,0)))),(9,nI i)] [(0,some (fm (E.length:Nat) nt num p Eo (.row 6 7 fs.length) (.slc none 0 (some 0)))),(1,some (oB E)),(2,some (pB E)),(6,lU 6 fs),(8,some {cells:=cX sc,ty:=99})] rfl rfl ⟨ah _,ah _,ah _,ah _,trivial⟩ ⟨rfl,rfl,rfl,bN rfl ⟨rfl,trivial⟩⟩ (by unfold lU;generalize List.flatMap kM fs=cg;cases cg<;>rfl) ?_
 refine cD (σ:=Fo×Nat×List Ent×List Fd) (λq=>[(9,nI q.2.1)]) (λq=>[(0,some (fm (q.2.2.1.length:Nat) nt num p Eo (.row 6 7 q.2.2.2.length) (.slc none 0 (some 0)))),(1,some (oB q.2.2.1)),(2,some (pB q.2.2.1)),(6,lU 6 q.2.2.2),(8,some {cells:=cX sc,ty:=99})])
  (λq=>q.1.At p q.2.1/\q.1.V (List.replicate q.1.cnt (false,68))/\(i<=q.2.1/\q.2.1+q.1.size=i+t.size)/\q.1.size<=N/\q.2.2.2.length+q.1.size<100000/\aY p num false q.1 q.2.1 sc q.2.2.1 q.2.2.2=R) (λq=>q.1.size) (t,i,E,fs) rfl (λ_=>rfl) ?_ ?_ ?_ ?_
 ·grind
 ·exact bc
 ·exact⟨rfl,rfl,rfl,iN rfl ⟨rfl,trivial⟩⟩
 rintro⟨t',cur,E1,fs1⟩ ⟨t1,t2,⟨t3,t4⟩,t5,t6,t7⟩;simp only at t1 t2 t3 t4 t5 t6 t7 |-
 cases t' with
 |nil=>
  simp only[aY] at t7;subst t7;simp only[Fo.size] at t4
  repeat'(first|refine yA ?_|refine y2 ?_ ?_|refine y4 λh=>?_|exact y5|fail)
  exact Fin.fd 6 (.inl rfl) rfl rfl rfl rfl rfl rfl rfl rfl
 |cons y k n=>
  simp only[Fo.size] at t4 t5 t6;have hcl:=At.lt t1;have hec:=hE.get t1;have hd:=ih y k cur sc E1 fs1 aa ⟨t1.1,t1.2.1,t1.2.2.1,trivial⟩ ⟨t2.1,t2.2.1,trivial⟩ hsc aa;have hl:=gj (p:=p) (num:=num) false (.cons y k .nil) cur sc E1 fs1;simp only[Fo.size] at hl;rw[ti] at t7;generalize aY p num false (.cons y k .nil) cur sc E1 fs1=R1 at hd t7 hl;obtain⟨E2,fs2,e⟩:=R1;simp only at hd t7 hl;by_cases he:e=0
  ·subst he
   rw[if_pos rfl] at t7
   repeat'(first|refine yA ?_|refine y2 ?_ ?_|refine y4 λh=>?_|(refine wX ?_;refine ja [0,1,2,3,6,7] hd ?_ (wr:=[(0,some (fm (E2.length:Nat) nt num p Eo (.row 9 10 fs2.length) (.slc none 0 (some 0)))),(1,some (oB E2)),(2,some (pB E2)),(6,none),(9,lU 9 fs2)]) (k2:=fI))|exact y5|fail)
   refine fq (n,cur+1+k.size,E2,fs2) ⟨t1.2.2.2,t2.2.2,⟨ae,ae⟩,ae,ae,t7⟩ (by simp only[Fo.size];omega) [0,1,2,3,4,5,9,10,8] rfl ?_ ?_ ?_
   ·repeat'(first|exact ah _|exact cT _|exact Z0o|exact bp (congrArg nI (by rw[hec]))|refine⟨?_,?_⟩)
   ·exact⟨rfl,rfl,rfl,bN rfl ⟨rfl,trivial⟩⟩
   ·unfold lU
    generalize List.flatMap kM fs2=cg
    cases cg<;>rfl
  ·rw[if_neg he] at t7
   subst t7
   repeat'(first|refine yA ?_|refine y2 ?_ ?_|refine y4 λh=>?_|(refine wX ?_;refine ja [0,1,2,3,6,7] hd ?_ (wr:=[(0,some (fm (E2.length:Nat) nt num p Eo (.row 9 10 fs2.length) (.slc none 0 (some 0)))),(1,some (oB E2)),(2,some (pB E2)),(6,none),(9,lU 9 fs2)]) (k2:=fI))|exact y5|fail)
   exact Fin.fd 9 (.inl rfl) rfl rfl rfl rfl rfl rfl rfl rfl
theorem H5 (nt num:Int) (p:List Nd) (Eo:List Nat) (hp:p.length<=2048) (hE:EOK p Eo) (N:Nat) (ih:Fe nt num p Eo N):Ih nt num p Eo N:=by
 intro x k i sc E fs hN ha hv hsc hfs;have hel:=hE.len;have hil:=At.lt ha;have hei:=hE.get ha;have hd:=ih k (i+1) sc E fs hN ha.2.2.1 hv hsc hfs;generalize aY p num false k (i+1) sc E fs=R at hd |-;obtain⟨E2,fs2,e⟩:=R;simp only at hd |-;refine wW Tryz.func185 ?_
 repeat'(first|refine yA ?_|refine y2 ?_ ?_|(refine wX ?_;refine ja [0,1,2,3,4,5] hd ?_ (wr:=[(0,some (fm (E2.length:Nat) nt num p Eo (.row 7 8 fs2.length) (.slc none 0 (some 0)))),(1,some (oB E2)),(2,some (pB E2)),(4,none),(7,lU 7 fs2)]) (k2:=fI) (hle:=by exact⟨ah _,bp (congrArg nI (by push_cast;rfl)),bp (congrArg nI (by rw[hei])),ah _,trivial⟩))|exact y5|fail)
 exact Fin.fd 7 (.inl rfl) rfl rfl rfl rfl rfl rfl rfl rfl
end
section
variable {p:List Nd}
theorem F3 {nt num:Int} {Eo:List Nat} {nx:Int} {f:FuncId} {args:List V} {v:V} {fs rs:S} (hf:wg fs=false) (hr:wg rs=false) (h:∀ x y:Value,FQ f args 6 [(0,some (fm nx nt num p Eo (.cst x) (.cst y)))] v 6 [(0,some (fm nx nt num p Eo (.cst x) (.cst y)))]):
 FQ f args 6 [(0,some (fm nx nt num p Eo fs rs))] v 6 [(0,some (fm nx nt num p Eo fs rs))]:=by
 refine⟨(h (.int .i64 0) (.int .i64 0)).1,?_⟩
 refine SC.cst (i:=0) (o:=8) (i':=0) (o':=8) (s:=fs) rfl rfl rfl rfl hf rfl rfl λx hx=>?_
 refine SC.cst (i:=0) (o:=9) (i':=0) (o':=9) (s:=rs) rfl rfl rfl rfl hr rfl rfl λy hy=>?_
 exact (h x y).2
theorem Am {nt num:Int} {Eo:List Nat} {E:List Ent} {f:FuncId} {args:List V} {v:V} {fs rs:S} (hf:wg fs=false) (hr:wg rs=false) (h:∀ x y:Value,FQ f args 6 (yB nt num p Eo (.cst x) (.cst y) E) v 6 (yB nt num p Eo (.cst x) (.cst y) E)):
 FQ f args 6 (yB nt num p Eo fs rs E) v 6 (yB nt num p Eo fs rs E):=by
 refine⟨(h (.int .i64 0) (.int .i64 0)).1,?_⟩
 refine SC.cst (i:=0) (o:=8) (i':=0) (o':=8) (s:=fs) rfl rfl rfl rfl hf rfl rfl λx hx=>?_
 refine SC.cst (i:=0) (o:=9) (i':=0) (o':=9) (s:=rs) rfl rfl rfl rfl hr rfl rfl λy hy=>?_
 exact (h x y).2
theorem B8 {a b:Int} (h:kG a b=false):a<=1000/\b<=1000:=by
 unfold kG at h
 grind
theorem FK {i:Nat} (h:aJ p i=false) (ho:(p.getD i dN).op=16):ai p (i+4-2)<=1000/\ai p (i+4-1)<=1000:=by
 unfold aJ at h;rw[ho] at h;simp at h;exact B8 h
theorem Hs {i:Nat} (h:aJ p i=false) (ho:(p.getD i dN).op=17):ai p (i+5-2)<=1000/\ai p (i+5-1)<=1000:=by
 unfold aJ at h;rw[ho] at h;simp at h;exact B8 h
theorem HW (nt num:Int) (p:List Nd) (Eo:List Nat) (hp:p.length<=2048) (hw:mG p) (hI:re p) (hO:∀ j,j<p.length->aJ p j=false) (hNA:∀ j,j<p.length->kK p j) (hE:EOK p Eo) (N:Nat) (ih:Ih nt num p Eo N):DecP nt num p Eo (N+1):=by
 intro x k i sc E fs hN ha hv hsc hfs;have hi:=At.lt ha;have hx:=At.get ha;have hac:=hv.1.1;have hkV:=hv.2.1;have hkA:=ha.2.2.1;obtain⟨hi1,_⟩:=ly (.inl rfl) ha hv;rw[qE];by_cases h10:x.op=10
 ·have hop:(p.getD i dN).op=10:=ae
  rw[h10,sC] at hkV;obtain⟨bl,hz,hbl⟩:=aO [110] k rfl hkV;obtain⟨hb1,hb2⟩:=hbl p (i+1) hkA;have hdl:=eu (p:=p) (num:=num) [110] k rfl hkV
  have hj:=F3 (fs:=.row 4 5 fs.length) (rs:=.slc none 0 (some 0)) rfl rfl λx y=>Az nt num p Eo hw (E.length:Nat) x y (i+1) hi1 sc
  rw[show ((i+1:Nat):Int)=(i:Int)+1 by omega] at hj;unfold gW;rw[if_pos h10];have hjr:= @jv p (i+1) sc;generalize bY p (i+1) sc=J at hj hjr |-;obtain⟨q,ok⟩:=J;cases ok
  ·rw[if_pos rfl]
   refine wW Tryz.func126 ?_
   repeat'(first|refine yA ?_|refine y2 ?_ ?_|refine y4 λh=>?_|refine wX (eO [0,1,2,3,4,5] hj ?_)|exact y5|fail)
   exact Fin.f4 (.inl rfl) rfl rfl rfl rfl rfl rfl rfl
  ·rw[if_neg av]
   have hc:=Am (fs:=.row 4 5 fs.length) (rs:=.slc none 0 (some 0)) rfl rfl λx y=>BI nt num p Eo (E.length:Nat) x y E q (hjr rfl)
   generalize dS E q=C at hc |-;obtain⟨c,ok⟩:=C;cases ok
   ·rw[if_pos rfl]
    refine wW Tryz.func126 ?_
    repeat'(first|refine yA ?_|refine y2 ?_ ?_|refine y4 λh=>?_|refine wX (eO [0,1,2,3,4,5] hj ?_)|refine wX (eO [0,1,2,3,4,5] hc ?_)|exact y5|fail)
    exact Fin.f4 (.inl rfl) rfl rfl rfl rfl rfl rfl rfl
   ·rw[if_neg av]
    simp only;rw[hdl];have hd:=ih bl (am k) (i+1+1) q E fs ae hb1 hb2.2.1 (hjr rfl) ae;rw[show i+1+[(110:Int)].length+1=i+1+1+1 from rfl];generalize aY p num false (am k) (i+1+1+1) q E fs=R at hd |-;obtain⟨E2,fs2,e⟩:=R;simp only at hd |-;refine wW Tryz.func126 ?_
    repeat'(first|refine yA ?_|refine y2 ?_ ?_|refine y4 λh=>?_|refine wX (eO [0,1,2,3,4,5] hj ?_)|refine wX (eO [0,1,2,3,4,5] hc ?_)|(refine wX ?_;refine ja [0,1,2,3,4,5] hd ?_ (wr:=[(0,some (fm (E2.length:Nat) nt num p Eo (.row 8 9 fs2.length) (.slc none 0 (some 0)))),(1,some (oB E2)),(2,some (pB E2)),(4,none),(8,lU 8 fs2)]) (k2:=fI) (hle:=by exact⟨ah _,bp (congrArg nI (by push_cast;omega)),ah _,trivial⟩))|exact y5|fail)
    exact Fin.fd 8 (.inl rfl) rfl rfl rfl rfl rfl rfl rfl rfl
 unfold gW;rw[if_neg h10];by_cases h16:x.op=16
 ·rw[if_pos h16]
  have hop:(p.getD i dN).op=16:=ae;have hkV':=hkV;rw[h16,sD] at hkV';obtain⟨bl,hz,hbl⟩:=aO [110,105,105] k rfl hkV';obtain⟨hb1,hb2⟩:=hbl p (i+1) hkA;rw[show i+1+([110,105,105]:List Int).length=i+4 from rfl] at hb1;have hnb:=At.lt hb1;have hac:=FK (hO i hi) hop;have hd:=Bm nt num p Eo hp hw hI hO hNA hE E fs aa i (i+4) bl (am k) hb1 hb2.2.1 aa hac.1 hac.2 sc hsc _ rfl;unfold m6;generalize fp p num sc (ai p (i+4-2)) (ai p (i+4-1)) (am k) (i+4+1) E [] 0=R at hd |-;generalize tc i sc fs R=fs2 at hd |-;obtain⟨E2,us,bits,e⟩:=R;simp only at hd |-;refine wW Tryz.func126 ?_
  repeat'(first|refine yA ?_|refine y2 ?_ ?_|refine y4 λh=>?_|(refine wX ?_;refine ja [0,1,2,3,4,5] hd ?_ (wr:=[(0,some (fm (E2.length:Nat) nt num p Eo (.row 7 8 fs2.length) (.slc none 0 (some 0)))),(1,some (oB E2)),(2,some (pB E2)),(4,none),(7,lU 7 fs2)]) (k2:=fI) (hle:=by exact⟨ah _,ah _,bp (congrArg nI (by push_cast;omega)),ah _,trivial⟩))|exact y5|fail)
  exact Fin.fd 7 (.inl rfl) rfl rfl rfl rfl rfl rfl rfl rfl
 rw[if_neg h16];by_cases h17:x.op=17
 ·rw[if_pos h17]
  have hop:(p.getD i dN).op=17:=ae;have hkV':=hkV;rw[h17,sw] at hkV';obtain⟨bl,hz,hbl⟩:=aO [110,110,105,105] k rfl hkV';obtain⟨hb1,hb2⟩:=hbl p (i+1) hkA;rw[show i+1+([110,110,105,105]:List Int).length=i+5 from rfl] at hb1;have hnb:=At.lt hb1;have hac:=Hs (hO i hi) hop;have hd:=Bm nt num p Eo hp hw hI hO hNA hE E fs aa i (i+5) bl (am k) hb1 hb2.2.1 aa hac.1 hac.2 sc hsc _ rfl;unfold m6;generalize fp p num sc (ai p (i+5-2)) (ai p (i+5-1)) (am k) (i+5+1) E [] 0=R at hd |-;generalize tc i sc fs R=fs2 at hd |-;obtain⟨E2,us,bits,e⟩:=R;simp only at hd |-;refine wW Tryz.func126 ?_
  repeat'(first|refine yA ?_|refine y2 ?_ ?_|refine y4 λh=>?_|(refine wX ?_;refine ja [0,1,2,3,4,5] hd ?_ (wr:=[(0,some (fm (E2.length:Nat) nt num p Eo (.row 7 8 fs2.length) (.slc none 0 (some 0)))),(1,some (oB E2)),(2,some (pB E2)),(4,none),(7,lU 7 fs2)]) (k2:=fI) (hle:=by exact⟨ah _,ah _,bp (congrArg nI (by push_cast;omega)),ah _,trivial⟩))|exact y5|fail)
  exact Fin.fd 7 (.inl rfl) rfl rfl rfl rfl rfl rfl rfl rfl
 rw[if_neg h17];have had:=E_ nt num p Eo hp hw E i hi1 sc (.row 4 5 fs.length) (.slc none 0 (some 0)) rfl rfl;have hao:=my nt Eo num p hp hw E i hi1 sc;generalize bF p num E i sc=A at had hao |-;obtain⟨E2,id,q,e⟩:=A;simp only at had hao |-
 have hop:(p.getD i dN).op=x.op:=by rw[hx]
 by_cases he:e=0
 ·rcases hao with ⟨_,h⟩|⟨_,rfl,hA⟩
  ·grind
  subst he;have hqr:=jv hA.join;rw[if_neg av];by_cases hb:x.op=11\/x.op=12
  ·rw[if_pos hb]
   rcases hb with hb|hb
   ·rw[hb,sB] at hkV
    rw[hb] at hop;obtain⟨bl,hz,hbl⟩:=aO [115] k rfl hkV;obtain⟨hb1,hb2⟩:=hbl p (i+1) hkA;rw[eu (p:=p) (num:=num) [115] k rfl hkV];have hd:=ih bl (am k) (i+1+1) q E2 fs ae hb1 hb2.2.1 hqr ae;rw[show i+1+[(115:Int)].length+1=i+1+1+1 from rfl];generalize aY p num false (am k) (i+1+1+1) q E2 fs=R at hd |-;obtain⟨E3,fs2,e⟩:=R;simp only at hd |-;refine wW Tryz.func126 ?_
    repeat'(first|refine yA ?_|refine y2 ?_ ?_|refine y4 λh=>?_|refine wX (eO [0,1,2,3,4,5] had ?_)|(refine wX ?_;refine ja [0,1,2,3,4,5] hd ?_ (wr:=[(0,some (fm (E3.length:Nat) nt num p Eo (.row 8 9 fs2.length) (.slc none 0 (some 0)))),(1,some (oB E3)),(2,some (pB E3)),(4,none),(8,lU 8 fs2)]) (k2:=fI) (hle:=by exact⟨ah _,bp (congrArg nI (by push_cast;omega)),ah _,trivial⟩))|exact y5|fail)
    exact Fin.fd 8 (.inl rfl) rfl rfl rfl rfl rfl rfl rfl rfl
   ·rw[hb,sA] at hkV
    rw[hb] at hop;obtain⟨bl,hz,hbl⟩:=aO [115,105,105] k rfl hkV;obtain⟨hb1,hb2⟩:=hbl p (i+1) hkA;rw[eu (p:=p) (num:=num) [115,105,105] k rfl hkV];simp only[Z04,Z0e] at hz;have hd:=ih bl (am k) (i+1+3) q E2 fs aa hb1 hb2.2.1 hqr aa;rw[show i+1+[(115:Int),105,105].length+1=i+1+3+1 from rfl];generalize aY p num false (am k) (i+1+3+1) q E2 fs=R at hd |-;obtain⟨E3,fs2,e⟩:=R;simp only at hd |-;refine wW Tryz.func126 ?_
    repeat'(first|refine yA ?_|refine y2 ?_ ?_|refine y4 λh=>?_|refine wX (eO [0,1,2,3,4,5] had ?_)|(refine wX ?_;refine ja [0,1,2,3,4,5] hd ?_ (wr:=[(0,some (fm (E3.length:Nat) nt num p Eo (.row 8 9 fs2.length) (.slc none 0 (some 0)))),(1,some (oB E3)),(2,some (pB E3)),(4,none),(8,lU 8 fs2)]) (k2:=fI) (hle:=by exact⟨ah _,bp (congrArg nI (by push_cast;omega)),ah _,trivial⟩))|exact y5|fail)
    exact Fin.fd 8 (.inl rfl) rfl rfl rfl rfl rfl rfl rfl rfl
  ·rw[if_neg hb]
   refine wW Tryz.func126 ?_
   repeat'(first|refine yA ?_|refine y2 ?_ ?_|refine y4 λh=>?_|refine wX (eO [0,1,2,3,4,5] had ?_)|exact y5|fail)
   all_goals exact Fin.f4 (.inl rfl) rfl rfl rfl rfl rfl rfl rfl
 ·rcases hao with ⟨rfl,_⟩|⟨h,_⟩
  ·rw[if_pos he]
   refine wW Tryz.func126 ?_
   repeat'(first|refine yA ?_|refine y2 ?_ ?_|refine y4 λh=>?_|refine wX (eO [0,1,2,3,4,5] had ?_)|exact y5|fail)
   all_goals exact Fin.f4 (.inl rfl) rfl rfl rfl rfl rfl rfl rfl
  all_goals grind
end
theorem tj (nt num:Int) (p:List Nd) (Eo:List Nat) (hp:p.length<=2048) (hw:mG p) (hI:re p) (hO:∀ j,j<p.length->aJ p j=false) (hNA:∀ j,j<p.length->kK p j) (hE:EOK p Eo):∀ N,DecP nt num p Eo N
 |0=>λx k i sc E fs hN=>absurd hN (Z1m _)
 |N+1=>HW nt num p Eo hp hw hI hO hNA hE N (H5 nt num p Eo hp hE N (Bq nt num p Eo hp hE N (tj nt num p Eo hp hw hI hO hNA hE N)))
def yC (E:List Ent):List Pth->Option Nat
 |[]=>none
 |c::t=>match je 0 E (aH c) with|some i=>some i|none=>yC E t
def fX (E:List Ent) (s nm:By):Option Nat:=if (ak s).2=true/\(ak nm).2=true then yC E (aU (ak s).1 (ak nm).1) else none
theorem Aq {E:List Ent}:∀ {cs:List Pth} {k:Nat},yC E cs=some k->k<E.length
 |[],_,h=>by cases h
 |c::t,k,h=>by
  rw[yC] at h
  cases h1:je 0 E (aH c) with
  |some i=>
   rw[h1] at h;cases h;have:=(iw h1).2.1;omega
  |none=>rw[h1] at h;exact Aq h
theorem sq {E:List Ent} {s nm:By} {k:Nat} (h:fX E s nm=some k):k<E.length:=by
 unfold fX at h;split at h
 ·exact Aq h
 ·cases h
theorem jY {s:By} (h:(ak s).2=true):aA (ak s).1=true:=by
 unfold ak dV eJ at h |-
 repeat' split at h
 all_goals simp_all
 all_goals (rw[if_neg aa];assumption)
theorem F1 (nt num:Int) (p:List Nd) (Eo:List Nat) (x y:Value) (E:List Ent) (s nm:By) (hs:s.length<9223372036854775807) (hn:nm.length<9223372036854775807):
 FQ 20 [.s (.ptr (some (0,0))),sV s,sV nm] 6 (yB nt num p Eo (.cst x) (.cst y) E) (.tup [.s (.int .i64 (((fX E s nm).getD 0:Nat):Int)),.s (.bool (fX E s nm).isSome)]) 6 (yB nt num p Eo (.cst x) (.cst y) E):=by
 have h1:=e9 s hs;have h2:=e9 nm hn;have hv:= @jY s;unfold fX;generalize ak s=r1 at h1 hv |-;generalize ak nm=r2 at h2 |-;obtain⟨q1,ok1⟩:=r1;obtain⟨q2,ok2⟩:=r2;refine wW Tryz.func20 ?_;cases ok1
 ·
  repeat'(first|refine yA ?_|refine y2 ?_ ?_|refine an h1 ?_|exact y5|fail)
  exact bD
 cases ok2
 ·
  repeat'(first|refine yA ?_|refine y2 ?_ ?_|refine an h1 ?_|refine an h2 ?_|exact y5|fail)
  exact bD
 simp only[and_self,if_true];have hcd:=ve q1 q2;have hroot:= @jA q1 q2;have hcl:=lE q1 q2;obtain⟨hu0,_,hseg,_,_,_⟩:=aG (hv rfl);simp only at hseg hu0;generalize aU q1 q2=cs at*
 repeat'(first|refine yA ?_|refine y2 ?_ ?_|refine an h1 ?_|refine an h2 ?_|refine an hcd ?_|exact y5|fail)
 refine cD (σ:=Nat) (λj=>[(33,nI j)]) (λj=>yB nt num p Eo (.cst x) (.cst y) E) (λj=>j<=cs.length/\yC E (cs.drop j)=yC E cs) (λj=>cs.length-j) 0 rfl (λ_=>rfl) ⟨Z08 _,rfl⟩ bc ⟨rfl,rfl,rfl,trivial⟩ ?_;rintro j ⟨j1,j2⟩;by_cases hj:j<cs.length
 ·rw[Z0k hj] at j2
  have hg:cs.getD j z0=cs[j]:=ae;have hrt:(cs.getD j z0).root=true:=ae;have hf:=ny (cs.getD j z0) hrt;rw[<-hg,yC] at j2
  cases hl:je 0 E (aH (cs.getD j z0)) with
  |none=>
   rw[hl] at j2
   repeat'(first|refine y1 ?_|refine y2 ?_ ?_|refine y4 λh=>?_|refine an hf ?_|refine RegX.pLk none rfl rfl rfl rfl rfl rfl hl rfl ?_|refine y3 ?_|exact y5|fail)
   exact dT (j+1) ⟨hj,j2⟩ aa rfl bc ⟨rfl,rfl,rfl,trivial⟩ rfl rfl ac
  |some k=>
   rw[hl] at j2;simp only at j2
   repeat'(first|refine y1 ?_|refine y2 ?_ ?_|refine y4 λh=>?_|refine an hf ?_|refine RegX.pLk (some k) rfl rfl rfl rfl rfl rfl hl rfl ?_|refine y3 ?_|exact y5|fail)
   rw[<-j2];exact bD
 ·have hd:cs.drop j=[]:=ae
  rw[hd] at j2;simp only[yC] at j2;rw[<-j2]
  repeat'(first|refine yA ?_|refine y2 ?_ ?_|refine y4 λh=>?_|exact y5|fail)
  all_goals exact bD
def iD (p:List Nd) (E:List Ent) (s:By) (i:Nat) (op:Int):Option Nat:=
 match fX E s (p.getD i dN).str with
 |some k=>if (E.getD k eZ).op=op then some k else none
 |none=>none
abbrev rL (nt num:Int) (p:List Nd) (Eo:List Nat) (fc:S) (E:List Ent) (rs:List Int):Hp:=[(0,some (fm (E.length:Nat) nt num p Eo fc (.row 4 5 rs.length))),(1,some (oB E)),(2,some (pB E)),(4,gQ 4 rs)]
abbrev FD (nt num:Int) (p:List Nd) (Eo:List Nat) (fc:S) (E:List Ent) (rs:List Int):Hp:=[(0,some (fm (E.length:Nat) nt num p Eo fc (.row 6 7 rs.length))),(1,some (oB E)),(2,some (pB E)),(4,none),(6,gQ 6 rs)]
abbrev HO (l:List Int):List S:=l.map λz=>S.int .i64 z
theorem zQ {nt num:Int} {p:List Nd} {Eo:List Nat} {E:List Ent} {rs:List Int} {x:Value}:e_ 8 (FD nt num p Eo (.cst x) E rs)=true:=by
 unfold FD gQ;generalize List.map _ rs=cg
 cases cg<;>rfl
section
variable {P:Program} {fn:Func} {env:List V} {nt num:Int} {p:List Nd} {Eo:List Nat} {E:List Ent} {z z':Int} {b b':Bool} {e:Exit} {M:Hp} {m:Nat} {rs rs':List Int} {x:Value}
theorem Fin.rd (c:Nat) (hx:e=.ret\/e=.normal) (h0:lk M 0=some (fm (E.length:Nat) nt num p Eo (.cst x) (.row c (c+1) rs.length))) (h1:lk M 1=some (oB E)) (h2:lk M 2=some (pB E)) (h4:lk M c=gQ c rs)
 (hr:gU P fn env M=some (.tup [.s (.int .i64 z'),.s (.bool b')])) (hn:bZ (List.range 6++[c,c+1])=true) (hz:z'=z) (hb:b'=b) (hf:rs=rs'):Fin P fn 6 (.tup [.s (.int .i64 z),.s (.bool b)]) 8 (FD nt num p Eo (.cst x) E rs') e env m M:=by
 subst hz;subst hf;subst hb;exact⟨hx,_,[c,c+1],ah _,hY hr ⟨h0,h1,h2,bN h4 trivial⟩ rfl zQ rfl hn⟩
theorem Fin.r4 (hx:e=.ret\/e=.normal) (h0:lk M 0=some (fm (E.length:Nat) nt num p Eo (.cst x) (.row 4 5 rs.length))) (h1:lk M 1=some (oB E)) (h2:lk M 2=some (pB E)) (h4:lk M 4=gQ 4 rs)
 (hr:gU P fn env M=some (.tup [.s (.int .i64 z'),.s (.bool b')])) (hz:z'=z) (hb:b'=b) (hf:rs=rs'):Fin P fn 6 (.tup [.s (.int .i64 z),.s (.bool b)]) 8 (FD nt num p Eo (.cst x) E rs') e env m M:=by
 subst hz;subst hf;subst hb;refine⟨hx,_,[4,5],ah _,Cx hr ⟨h0,h1,h2,bN h4 trivial⟩ rfl zQ rfl ?_ ?_⟩
 ·unfold FD gQ
  generalize List.map _ rs=cg
  cases cg<;>rfl
 ·unfold FD gQ
  generalize List.map _ rs=cg
  cases cg<;>rfl
end
theorem uS (nt num:Int) (p:List Nd) (Eo:List Nat) (hw:mG p) (x:Value) (E:List Ent) (rs:List Int) (hrs:rs.length<=100000) (s:By) (hs:s.length<9223372036854775807) (i:Nat) (hi:i<p.length) (op:Int):
 FQ 127 [.s (.ptr (some (0,0))),sV s,nI i,nI op] 6 (rL nt num p Eo (.cst x) E rs) (.tup [.s (.int .i64 (((iD p E s i op).getD 0:Nat):Int)),.s (.bool (iD p E s i op).isSome)]) 8 (FD nt num p Eo (.cst x) E (rs++(iD p E s i op).toList.map λ(n:Nat)=>(n:Int))):=by
 have hk:=Am (fs:=.cst x) (rs:=.row 4 5 rs.length) rfl rfl λa b=>F1 nt num p Eo a b E s (p.getD i dN).str hs (pJ hw i)
 have hlt:= @sq E s (p.getD i dN).str;unfold iD;generalize fX E s (p.getD i dN).str=r at hk hlt |-;refine wW Tryz.func127 ?_
 cases r with
 |none=>
  repeat'(first|refine yA ?_|refine y2 ?_ ?_|refine wX (eO [0,1,2,3,4,5] hk ?_)|exact y5|fail)
  exact Fin.r4 (.inl rfl) rfl rfl rfl rfl rfl rfl rfl (Z0u _).symm
 |some k=>
  have hk2:=hlt rfl;have hsz1:(Tryz.prog.types[3]).size=1:=bd;have hby1:(Tryz.prog.types[3]).bytes=8:=bd;simp only;by_cases ho:(E.getD k eZ).op=op
  ·rw[if_pos ho]
   repeat'(first|refine y1 ?_|refine y2 ?_ ?_|refine y4 λh=>?_|refine wX (eO [0,1,2,3,4,5] hk ?_)|refine RegX.oLk k rfl rfl rfl hk2 rfl rfl rfl rfl rfl ?_|refine jC (i:=4) (g:=5) (m:=rs.length) (w:=1) (cs:=HO rs) (foot:=[6]) (k:=1) (add:=[.int .i64 (k:Int)]) rfl rfl (by simp[HO]) rfl rfl rfl rfl rfl rfl rfl hsz1 ac rfl ⟨Z02 _,rfl⟩ ac av rfl (by rw[hby1];omega) aa rfl ?_|refine y3 ?_|exact y5|fail)
   refine Fin.rd 7 (.inl rfl) ?_ rfl rfl ?_ rfl rfl rfl rfl rfl
   ·rw[Z03];rfl
   ·show g9 _ _ _ _=g9 _ _ _ _
    rw[Z0d];rfl
  ·rw[if_neg ho]
   repeat'(first|refine y1 ?_|refine y2 ?_ ?_|refine y4 λh=>?_|refine wX (eO [0,1,2,3,4,5] hk ?_)|refine RegX.oLk k rfl rfl rfl hk2 rfl rfl rfl rfl rfl ?_|refine y3 ?_|exact y5|fail)
   exact Fin.r4 (.inl rfl) rfl rfl rfl rfl rfl rfl rfl (Z0u _).symm
