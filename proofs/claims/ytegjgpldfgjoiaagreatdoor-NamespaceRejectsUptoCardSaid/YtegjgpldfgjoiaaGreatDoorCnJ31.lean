import Derived.Test.YtegjgpldfgjoiaaGreatDoorCnJ27
import Derived.Test.YtegjgpldfgjoiaaGreatDoorCnJ28
set_option linter.all false
set_option maxHeartbeats 40000000
set_option maxRecDepth 100000
namespace Go.Proofs.YtegjgpldfgjoiaaGreatDoor
open Go Ab
section
variable {p:List Nd} {num:Int} {E:List Ent} {fs:List Fd}
abbrev DR:=List Ent×List Fd×Int
def i_ (i:Nat) (sc:Pth) (fs:List Fd) (R:List Ent×List Int×Int×Int):DR:=(R.1,ud i sc fs R,R.2.2.2)
def gS (p:List Nd) (num:Int) (x:Nd) (k:Fo) (i:Nat) (sc:Pth) (E:List Ent) (fs:List Fd) (rec:Pth->List Ent->List Fd->DR):DR:=
 if x.op=10 then (if (cc p (i+1) sc).2=false then (E,fs,6) else if (fD E (cc p (i+1) sc).1).2=false then (E,fs,6) else rec (cc p (i+1) sc).1 E fs)
 else if x.op=16 then i_ i sc fs (dI p num sc (aj p (i+4-2)) (aj p (i+4-1)) (am k) (i+4+1) E [] 0)
 else if x.op=17 then i_ i sc fs (dI p num sc (aj p (i+5-2)) (aj p (i+5-1)) (am k) (i+5+1) E [] 0)
 else if (bt p num E i sc).2.2.2≠0 then ((bt p num E i sc).1,fs,(bt p num E i sc).2.2.2)
 else if x.op=11\/x.op=12 then rec (bt p num E i sc).2.2.1 (bt p num E i sc).1 fs
 else ((bt p num E i sc).1,fs,0)
def aX (p:List Nd) (num:Int):Bool->Fo->Nat->Pth->List Ent->List Fd->DR
 |_,.nil,_,_,E,fs=>(E,fs,0)
 |true,.cons x k n,i,sc,E,fs=>if x.op=4 then aX p num false k (i+1) sc E fs else aX p num true n (i+1+k.size) sc E fs
 |false,.cons x k n,i,sc,E,fs=>
  if (gS p num x k i sc E fs λsc E fs=>aX p num true k (i+1) sc E fs).2.2=0
  then aX p num false n (i+1+k.size) sc (gS p num x k i sc E fs λsc E fs=>aX p num true k (i+1) sc E fs).1 (gS p num x k i sc E fs λsc E fs=>aX p num true k (i+1) sc E fs).2.1
  else gS p num x k i sc E fs λsc E fs=>aX p num true k (i+1) sc E fs
theorem ug {x:Nd} {k:Fo} {i:Nat} {sc:Pth}:aX p num false (.cons x k .nil) i sc E fs=gS p num x k i sc E fs λsc E fs=>aX p num true k (i+1) sc E fs:=by
 grind [aX]
theorem wZ {x:Nd} {k n:Fo} {i:Nat} {sc:Pth}:aX p num false (.cons x k n) i sc E fs=
 if (aX p num false (.cons x k .nil) i sc E fs).2.2=0 then aX p num false n (i+1+k.size) sc (aX p num false (.cons x k .nil) i sc E fs).1 (aX p num false (.cons x k .nil) i sc E fs).2.1 else aX p num false (.cons x k .nil) i sc E fs:=by
 rw[ug];rfl
theorem eK {p:List Nd} {num c':Int}:∀ (ls:List Int) (t:Fo),(ls.all eI)=true->t.V (ls.map (λc=>(false,c))++[(true,c')])->∀ (i:Nat) (sc:Pth) (E:List Ent) (fs:List Fd),aX p num true t i sc E fs=aX p num false (am t) (i+ls.length+1) sc E fs
 |[],t,_,h,i,sc,E,fs=>by
  obtain⟨y,bl,n,rfl,h1,h2,h3⟩:=jY h;have:=iE h1;subst this;rw[aX,if_pos h2];rfl
 |c::ls,t,hl,h,i,sc,E,fs=>by
  simp only[Z1b,Z07] at hl;obtain⟨y,n,rfl,h1,h2⟩:=eN hl.1 h;obtain⟨b,g3,_⟩:=aV ls n hl.2 h1
  have hn:am (.cons y .nil n)=am n:=by
   cases n with
   |nil=>simp only[Fo.size] at g3;omega
   |cons a b c=>rfl
  rw[aX,if_neg aa,hn,eK ls n hl.2 h1]
  grind [Fo.size]
theorem wg (k:Int):dB (av 10 k).1=[(false,110)]++[(true,68)]:=rfl
theorem we (k:Int):dB (av 11 k).1=[(false,115)]++[(true,68)]:=rfl
theorem wa (k:Int):dB (av 12 k).1=[(false,115),(false,105),(false,105)]++[(true,68)]:=rfl
theorem wh (k:Int):dB (av 16 k).1=[(false,110),(false,105),(false,105)]++[(true,70)]:=rfl
theorem v8 (k:Int):dB (av 17 k).1=[(false,110),(false,110),(false,105),(false,105)]++[(true,70)]:=rfl
theorem gU {nt:Int} {Eo:List Nat}:fg 6 (eL nt num p Eo E fs)=true:=by
 unfold eL nY;generalize List.flatMap mr fs=cg
 cases cg<;>rfl
section
variable (nt num:Int) (p:List Nd) (Eo:List Nat)
def DecP (N:Nat):Prop:=∀ (x:Nd) (k:Fo) (i:Nat) (sc:Pth) (E:List Ent) (fs:List Fd),k.size<N->(Fo.cons x k .nil).At p i->(Fo.cons x k .nil).V [(false,68)]->sc.root=true->fs.length+k.size<100000->
 FQ 126 [.s (.ptr (some (0,0))),nI i,hY sc] 6 (eL nt num p Eo E fs) (.s (.int .i64 (aX p num false (.cons x k .nil) i sc E fs).2.2)) 8 (CH nt num p Eo (aX p num false (.cons x k .nil) i sc E fs).1 (aX p num false (.cons x k .nil) i sc E fs).2.1)
def Jp (N:Nat):Prop:=∀ (t:Fo) (i:Nat) (sc:Pth) (E:List Ent) (fs:List Fd),t.size<=N->t.At p i->t.V (List.replicate t.cnt (false,68))->sc.root=true->fs.length+t.size<100000->
 FQ 69 [.s (.ptr (some (0,0))),nI i,nI (i+t.size:Nat),hY sc] 6 (eL nt num p Eo E fs) (.s (.int .i64 (aX p num false t i sc E fs).2.2)) 8 (CH nt num p Eo (aX p num false t i sc E fs).1 (aX p num false t i sc E fs).2.1)
def MO (N:Nat):Prop:=∀ (x:Nd) (k:Fo) (i:Nat) (sc:Pth) (E:List Ent) (fs:List Fd),k.size<=N->(Fo.cons x k .nil).At p i->k.V (List.replicate k.cnt (false,68))->sc.root=true->fs.length+k.size<100000->
 FQ 185 [.s (.ptr (some (0,0))),nI i,hY sc] 6 (eL nt num p Eo E fs) (.s (.int .i64 (aX p num false k (i+1) sc E fs).2.2)) 8 (CH nt num p Eo (aX p num false k (i+1) sc E fs).1 (aX p num false k (i+1) sc E fs).2.1)
end
theorem wU (i:Nat) (sc:Pth) (fs:List Fd) (R:List Ent×List Int×Int×Int):(ud i sc fs R).length<=fs.length+1:=by
 unfold ud;split<;>simp
theorem iw {p:List Nd} {num:Int}:∀ (m:Bool) (t:Fo) (i:Nat) (sc:Pth) (E:List Ent) (fs:List Fd),(aX p num m t i sc E fs).2.1.length<=fs.length+t.size
 |_,.nil,_,_,E,fs=>by cases ‹Bool›<;>exact Z02 _
 |true,.cons x k n,i,sc,E,fs=>by
  rw[aX];simp only[Fo.size];split
  ·have:=iw (p:=p) (num:=num) false k (i+1) sc E fs;omega
  ·have:=iw (p:=p) (num:=num) true n (i+1+k.size) sc E fs;omega
 |false,.cons x k n,i,sc,E,fs=>by
  have ih:∀ sc E fs,(aX p num true k (i+1) sc E fs).2.1.length<=fs.length+k.size:=λsc E fs=>iw true k (i+1) sc E fs
  have h1:(gS p num x k i sc E fs λsc E fs=>aX p num true k (i+1) sc E fs).2.1.length<=fs.length+k.size+1:=by
   unfold gS i_
   repeat' split
   all_goals first
    |exact Nat.le_succ_of_le (ih _ _ _)
    |(have:=wU i sc fs (dI p num sc (aj p (i+4-2)) (aj p (i+4-1)) (am k) (i+4+1) E [] 0);simp only;omega)
    |(have:=wU i sc fs (dI p num sc (aj p (i+5-2)) (aj p (i+5-1)) (am k) (i+5+1) E [] 0);simp only;omega)
  rw[aX];simp only[Fo.size];generalize gS p num x k i sc E fs _=R at h1 |-;split
  ·have:=iw (p:=p) (num:=num) false n (i+1+k.size) sc R.1 R.2.1;omega
  ·omega
theorem Fk (nt num:Int) (p:List Nd) (Eo:List Nat) (hp:p.length<=2048) (hE:EOK p Eo) (N:Nat) (ih:DecP nt num p Eo N):Jp nt num p Eo N:=by
 intro t i sc E fs hN ha hv hsc hfs;generalize hR:aX p num false t i sc E fs=R;have hel:=hE.len;refine wW Tryz.func69 ?_
 repeat'(first|refine yA ?_|refine y2 ?_ ?_|exact y5|fail)
 refine my [0,1,2,3,4,5,4,5,6] 29 [(0,.s (.ptr (some (0,0)))),(2,nI (i+t.size:Nat)),(7,.s (.ptr (some (8,0)))),(9,nI i)] [(0,some (gD (E.length:Nat) nt num p Eo (.row 6 7 fs.length) (.slc none 0 (some 0)))),(1,some (oB E)),(2,some (pB E)),(6,nY 6 fs),(8,some {cells:=cH sc,ty:=99})] rfl rfl ⟨ah _,ah _,ah _,ah _,trivial⟩ ⟨rfl,rfl,rfl,bh rfl ⟨rfl,trivial⟩⟩ (by unfold nY;generalize List.flatMap mr fs=cg;cases cg<;>rfl) ?_
 refine cy (σ:=Fo×Nat×List Ent×List Fd) (λq=>[(9,nI q.2.1)]) (λq=>[(0,some (gD (q.2.2.1.length:Nat) nt num p Eo (.row 6 7 q.2.2.2.length) (.slc none 0 (some 0)))),(1,some (oB q.2.2.1)),(2,some (pB q.2.2.1)),(6,nY 6 q.2.2.2),(8,some {cells:=cH sc,ty:=99})])
  (λq=>q.1.At p q.2.1/\q.1.V (List.replicate q.1.cnt (false,68))/\(i<=q.2.1/\q.2.1+q.1.size=i+t.size)/\q.1.size<=N/\q.2.2.2.length+q.1.size<100000/\aX p num false q.1 q.2.1 sc q.2.2.1 q.2.2.2=R) (λq=>q.1.size) (t,i,E,fs) rfl (λ_=>rfl) ?_ ?_ ?_ ?_
 ·grind
 ·exact aP
 ·exact⟨rfl,rfl,rfl,fF rfl ⟨rfl,trivial⟩⟩
 rintro⟨t',cur,E1,fs1⟩ ⟨t1,t2,⟨t3,t4⟩,t5,t6,t7⟩;simp only at t1 t2 t3 t4 t5 t6 t7 |-
 cases t' with
 |nil=>
  simp only[aX] at t7;subst t7;simp only[Fo.size] at t4
  repeat'(first|refine yA ?_|refine y2 ?_ ?_|refine y4 λh=>?_|exact y5|fail)
  exact Fin.fd 6 (.inl rfl) rfl rfl rfl rfl rfl rfl rfl rfl
 |cons y k n=>
  simp only[Fo.size] at t4 t5 t6;have hcl:=At.lt t1;have hec:=hE.get t1;have hd:=ih y k cur sc E1 fs1 aa ⟨t1.1,t1.2.1,t1.2.2.1,trivial⟩ ⟨t2.1,t2.2.1,trivial⟩ hsc aa;have hl:=iw (p:=p) (num:=num) false (.cons y k .nil) cur sc E1 fs1;simp only[Fo.size] at hl;rw[wZ] at t7;generalize aX p num false (.cons y k .nil) cur sc E1 fs1=R1 at hd t7 hl;obtain⟨E2,fs2,e⟩:=R1;simp only at hd t7 hl;by_cases he:e=0
  ·subst he
   rw[if_pos rfl] at t7
   repeat'(first|refine yA ?_|refine y2 ?_ ?_|refine y4 λh=>?_|(refine wX ?_;refine jX [0,1,2,3,6,7] hd ?_ (wr:=[(0,some (gD (E2.length:Nat) nt num p Eo (.row 9 10 fs2.length) (.slc none 0 (some 0)))),(1,some (oB E2)),(2,some (pB E2)),(6,none),(9,nY 9 fs2)]) (k2:=gU))|exact y5|fail)
   refine fX (n,cur+1+k.size,E2,fs2) ⟨t1.2.2.2,t2.2.2,⟨ae,ae⟩,ae,ae,t7⟩ (by simp only[Fo.size];omega) [0,1,2,3,4,5,9,10,8] rfl ?_ ?_ ?_
   ·repeat'(first|exact ah _|exact dd _|exact Z0o|exact bB (congrArg nI (by rw[hec]))|refine⟨?_,?_⟩)
   ·exact⟨rfl,rfl,rfl,bh rfl ⟨rfl,trivial⟩⟩
   ·unfold nY
    generalize List.flatMap mr fs2=cg
    cases cg<;>rfl
  ·rw[if_neg he] at t7
   subst t7
   repeat'(first|refine yA ?_|refine y2 ?_ ?_|refine y4 λh=>?_|(refine wX ?_;refine jX [0,1,2,3,6,7] hd ?_ (wr:=[(0,some (gD (E2.length:Nat) nt num p Eo (.row 9 10 fs2.length) (.slc none 0 (some 0)))),(1,some (oB E2)),(2,some (pB E2)),(6,none),(9,nY 9 fs2)]) (k2:=gU))|exact y5|fail)
   exact Fin.fd 9 (.inl rfl) rfl rfl rfl rfl rfl rfl rfl rfl
theorem MB (nt num:Int) (p:List Nd) (Eo:List Nat) (hp:p.length<=2048) (hE:EOK p Eo) (N:Nat) (ih:Jp nt num p Eo N):MO nt num p Eo N:=by
 intro x k i sc E fs hN ha hv hsc hfs;have hel:=hE.len;have hil:=At.lt ha;have hei:=hE.get ha;have hd:=ih k (i+1) sc E fs hN ha.2.2.1 hv hsc hfs;generalize aX p num false k (i+1) sc E fs=R at hd |-;obtain⟨E2,fs2,e⟩:=R;simp only at hd |-;refine wW Tryz.func185 ?_
 repeat'(first|refine yA ?_|refine y2 ?_ ?_|(refine wX ?_;refine jX [0,1,2,3,4,5] hd ?_ (wr:=[(0,some (gD (E2.length:Nat) nt num p Eo (.row 7 8 fs2.length) (.slc none 0 (some 0)))),(1,some (oB E2)),(2,some (pB E2)),(4,none),(7,nY 7 fs2)]) (k2:=gU) (hle:=by exact⟨ah _,bB (congrArg nI (by push_cast;rfl)),bB (congrArg nI (by rw[hei])),ah _,trivial⟩))|exact y5|fail)
 exact Fin.fd 7 (.inl rfl) rfl rfl rfl rfl rfl rfl rfl rfl
end
section
variable {p:List Nd}
theorem Kg {nt num:Int} {Eo:List Nat} {nx:Int} {f:FuncId} {args:List V} {v:V} {fs rs:S} (hf:Az fs=false) (hr:Az rs=false) (h:∀ x y:Value,FQ f args 6 [(0,some (gD nx nt num p Eo (.cst x) (.cst y)))] v 6 [(0,some (gD nx nt num p Eo (.cst x) (.cst y)))]):
 FQ f args 6 [(0,some (gD nx nt num p Eo fs rs))] v 6 [(0,some (gD nx nt num p Eo fs rs))]:=by
 refine⟨(h (.int .i64 0) (.int .i64 0)).1,?_⟩
 refine SC.cst (i:=0) (o:=8) (i':=0) (o':=8) (s:=fs) rfl rfl rfl rfl hf rfl rfl λx hx=>?_
 refine SC.cst (i:=0) (o:=9) (i':=0) (o':=9) (s:=rs) rfl rfl rfl rfl hr rfl rfl λy hy=>?_
 exact (h x y).2
theorem Eg {nt num:Int} {Eo:List Nat} {E:List Ent} {f:FuncId} {args:List V} {v:V} {fs rs:S} (hf:Az fs=false) (hr:Az rs=false) (h:∀ x y:Value,FQ f args 6 (CG nt num p Eo (.cst x) (.cst y) E) v 6 (CG nt num p Eo (.cst x) (.cst y) E)):
 FQ f args 6 (CG nt num p Eo fs rs E) v 6 (CG nt num p Eo fs rs E):=by
 refine⟨(h (.int .i64 0) (.int .i64 0)).1,?_⟩
 refine SC.cst (i:=0) (o:=8) (i':=0) (o':=8) (s:=fs) rfl rfl rfl rfl hf rfl rfl λx hx=>?_
 refine SC.cst (i:=0) (o:=9) (i':=0) (o':=9) (s:=rs) rfl rfl rfl rfl hr rfl rfl λy hy=>?_
 exact (h x y).2
theorem F5 {a b:Int} (h:jW a b=false):a<=1000/\b<=1000:=by
 unfold jW at h
 grind
theorem JX {i:Nat} (h:aN p i=false) (ho:(p.getD i dN).op=16):aj p (i+4-2)<=1000/\aj p (i+4-1)<=1000:=by
 unfold aN at h;rw[ho] at h;simp at h;exact F5 h
theorem LQ {i:Nat} (h:aN p i=false) (ho:(p.getD i dN).op=17):aj p (i+5-2)<=1000/\aj p (i+5-1)<=1000:=by
 unfold aN at h;rw[ho] at h;simp at h;exact F5 h
theorem Mp (nt num:Int) (p:List Nd) (Eo:List Nat) (hp:p.length<=2048) (hw:oh p) (hI:li p) (hO:∀ j,j<p.length->aN p j=false) (hNA:∀ j,j<p.length->kN p j) (hE:EOK p Eo) (N:Nat) (ih:MO nt num p Eo N):DecP nt num p Eo (N+1):=by
 intro x k i sc E fs hN ha hv hsc hfs;have hi:=At.lt ha;have hx:=At.get ha;have hac:=hv.1.1;have hkV:=hv.2.1;have hkA:=ha.2.2.1;obtain⟨hi1,_⟩:=nc (.inl rfl) ha hv;rw[ug];by_cases h10:x.op=10
 ·have hop:(p.getD i dN).op=10:=ae
  rw[h10,wg] at hkV;obtain⟨bl,hz,hbl⟩:=aV [110] k rfl hkV;obtain⟨hb1,hb2⟩:=hbl p (i+1) hkA;have hdl:=eK (p:=p) (num:=num) [110] k rfl hkV
  have hj:=Kg (fs:=.row 4 5 fs.length) (rs:=.slc none 0 (some 0)) rfl rfl λx y=>Ey nt num p Eo hw (E.length:Nat) x y (i+1) hi1 sc
  rw[show ((i+1:Nat):Int)=(i:Int)+1 by omega] at hj;unfold gS;rw[if_pos h10];have hjr:= @kY p (i+1) sc;generalize cc p (i+1) sc=J at hj hjr |-;obtain⟨q,ok⟩:=J;cases ok
  ·rw[if_pos rfl]
   refine wW Tryz.func126 ?_
   repeat'(first|refine yA ?_|refine y2 ?_ ?_|refine y4 λh=>?_|refine wX (bD [0,1,2,3,4,5] hj ?_)|exact y5|fail)
   exact Fin.f4 (.inl rfl) rfl rfl rfl rfl rfl rfl rfl
  ·rw[if_neg aq]
   have hc:=Eg (fs:=.row 4 5 fs.length) (rs:=.slc none 0 (some 0)) rfl rfl λx y=>FA nt num p Eo (E.length:Nat) x y E q (hjr rfl)
   generalize fD E q=C at hc |-;obtain⟨c,ok⟩:=C;cases ok
   ·rw[if_pos rfl]
    refine wW Tryz.func126 ?_
    repeat'(first|refine yA ?_|refine y2 ?_ ?_|refine y4 λh=>?_|refine wX (bD [0,1,2,3,4,5] hj ?_)|refine wX (bD [0,1,2,3,4,5] hc ?_)|exact y5|fail)
    exact Fin.f4 (.inl rfl) rfl rfl rfl rfl rfl rfl rfl
   ·rw[if_neg aq]
    simp only;rw[hdl];have hd:=ih bl (am k) (i+1+1) q E fs ae hb1 hb2.2.1 (hjr rfl) ae;rw[show i+1+[(110:Int)].length+1=i+1+1+1 from rfl];generalize aX p num false (am k) (i+1+1+1) q E fs=R at hd |-;obtain⟨E2,fs2,e⟩:=R;simp only at hd |-;refine wW Tryz.func126 ?_
    repeat'(first|refine yA ?_|refine y2 ?_ ?_|refine y4 λh=>?_|refine wX (bD [0,1,2,3,4,5] hj ?_)|refine wX (bD [0,1,2,3,4,5] hc ?_)|(refine wX ?_;refine jX [0,1,2,3,4,5] hd ?_ (wr:=[(0,some (gD (E2.length:Nat) nt num p Eo (.row 8 9 fs2.length) (.slc none 0 (some 0)))),(1,some (oB E2)),(2,some (pB E2)),(4,none),(8,nY 8 fs2)]) (k2:=gU) (hle:=by exact⟨ah _,bB (congrArg nI (by push_cast;omega)),ah _,trivial⟩))|exact y5|fail)
    exact Fin.fd 8 (.inl rfl) rfl rfl rfl rfl rfl rfl rfl rfl
 unfold gS;rw[if_neg h10];by_cases h16:x.op=16
 ·rw[if_pos h16]
  have hop:(p.getD i dN).op=16:=ae;have hkV':=hkV;rw[h16,wh] at hkV';obtain⟨bl,hz,hbl⟩:=aV [110,105,105] k rfl hkV';obtain⟨hb1,hb2⟩:=hbl p (i+1) hkA;rw[show i+1+([110,105,105]:List Int).length=i+4 from rfl] at hb1;have hnb:=At.lt hb1;have hac:=JX (hO i hi) hop;have hd:=Fg nt num p Eo hp hw hI hO hNA hE E fs aa i (i+4) bl (am k) hb1 hb2.2.1 aa hac.1 hac.2 sc hsc _ rfl;unfold i_;generalize dI p num sc (aj p (i+4-2)) (aj p (i+4-1)) (am k) (i+4+1) E [] 0=R at hd |-;generalize ud i sc fs R=fs2 at hd |-;obtain⟨E2,us,bits,e⟩:=R;simp only at hd |-;refine wW Tryz.func126 ?_
  repeat'(first|refine yA ?_|refine y2 ?_ ?_|refine y4 λh=>?_|(refine wX ?_;refine jX [0,1,2,3,4,5] hd ?_ (wr:=[(0,some (gD (E2.length:Nat) nt num p Eo (.row 7 8 fs2.length) (.slc none 0 (some 0)))),(1,some (oB E2)),(2,some (pB E2)),(4,none),(7,nY 7 fs2)]) (k2:=gU) (hle:=by exact⟨ah _,ah _,bB (congrArg nI (by push_cast;omega)),ah _,trivial⟩))|exact y5|fail)
  exact Fin.fd 7 (.inl rfl) rfl rfl rfl rfl rfl rfl rfl rfl
 rw[if_neg h16];by_cases h17:x.op=17
 ·rw[if_pos h17]
  have hop:(p.getD i dN).op=17:=ae;have hkV':=hkV;rw[h17,v8] at hkV';obtain⟨bl,hz,hbl⟩:=aV [110,110,105,105] k rfl hkV';obtain⟨hb1,hb2⟩:=hbl p (i+1) hkA;rw[show i+1+([110,110,105,105]:List Int).length=i+5 from rfl] at hb1;have hnb:=At.lt hb1;have hac:=LQ (hO i hi) hop;have hd:=Fg nt num p Eo hp hw hI hO hNA hE E fs aa i (i+5) bl (am k) hb1 hb2.2.1 aa hac.1 hac.2 sc hsc _ rfl;unfold i_;generalize dI p num sc (aj p (i+5-2)) (aj p (i+5-1)) (am k) (i+5+1) E [] 0=R at hd |-;generalize ud i sc fs R=fs2 at hd |-;obtain⟨E2,us,bits,e⟩:=R;simp only at hd |-;refine wW Tryz.func126 ?_
  repeat'(first|refine yA ?_|refine y2 ?_ ?_|refine y4 λh=>?_|(refine wX ?_;refine jX [0,1,2,3,4,5] hd ?_ (wr:=[(0,some (gD (E2.length:Nat) nt num p Eo (.row 7 8 fs2.length) (.slc none 0 (some 0)))),(1,some (oB E2)),(2,some (pB E2)),(4,none),(7,nY 7 fs2)]) (k2:=gU) (hle:=by exact⟨ah _,ah _,bB (congrArg nI (by push_cast;omega)),ah _,trivial⟩))|exact y5|fail)
  exact Fin.fd 7 (.inl rfl) rfl rfl rfl rfl rfl rfl rfl rfl
 rw[if_neg h17];have had:=Jk nt num p Eo hp hw E i hi1 sc (.row 4 5 fs.length) (.slc none 0 (some 0)) rfl rfl;have hao:=pb nt Eo num p hp hw E i hi1 sc;generalize bt p num E i sc=A at had hao |-;obtain⟨E2,id,q,e⟩:=A;simp only at had hao |-
 have hop:(p.getD i dN).op=x.op:=by rw[hx]
 by_cases he:e=0
 ·rcases hao with ⟨_,h⟩|⟨_,rfl,hA⟩
  ·grind
  subst he;have hqr:=kY hA.join;rw[if_neg aq];by_cases hb:x.op=11\/x.op=12
  ·rw[if_pos hb]
   rcases hb with hb|hb
   ·rw[hb,we] at hkV
    rw[hb] at hop;obtain⟨bl,hz,hbl⟩:=aV [115] k rfl hkV;obtain⟨hb1,hb2⟩:=hbl p (i+1) hkA;rw[eK (p:=p) (num:=num) [115] k rfl hkV];have hd:=ih bl (am k) (i+1+1) q E2 fs ae hb1 hb2.2.1 hqr ae;rw[show i+1+[(115:Int)].length+1=i+1+1+1 from rfl];generalize aX p num false (am k) (i+1+1+1) q E2 fs=R at hd |-;obtain⟨E3,fs2,e⟩:=R;simp only at hd |-;refine wW Tryz.func126 ?_
    repeat'(first|refine yA ?_|refine y2 ?_ ?_|refine y4 λh=>?_|refine wX (bD [0,1,2,3,4,5] had ?_)|(refine wX ?_;refine jX [0,1,2,3,4,5] hd ?_ (wr:=[(0,some (gD (E3.length:Nat) nt num p Eo (.row 8 9 fs2.length) (.slc none 0 (some 0)))),(1,some (oB E3)),(2,some (pB E3)),(4,none),(8,nY 8 fs2)]) (k2:=gU) (hle:=by exact⟨ah _,bB (congrArg nI (by push_cast;omega)),ah _,trivial⟩))|exact y5|fail)
    exact Fin.fd 8 (.inl rfl) rfl rfl rfl rfl rfl rfl rfl rfl
   ·rw[hb,wa] at hkV
    rw[hb] at hop;obtain⟨bl,hz,hbl⟩:=aV [115,105,105] k rfl hkV;obtain⟨hb1,hb2⟩:=hbl p (i+1) hkA;rw[eK (p:=p) (num:=num) [115,105,105] k rfl hkV];simp only[Z04,Z0e] at hz;have hd:=ih bl (am k) (i+1+3) q E2 fs aa hb1 hb2.2.1 hqr aa;rw[show i+1+[(115:Int),105,105].length+1=i+1+3+1 from rfl];generalize aX p num false (am k) (i+1+3+1) q E2 fs=R at hd |-;obtain⟨E3,fs2,e⟩:=R;simp only at hd |-;refine wW Tryz.func126 ?_
    repeat'(first|refine yA ?_|refine y2 ?_ ?_|refine y4 λh=>?_|refine wX (bD [0,1,2,3,4,5] had ?_)|(refine wX ?_;refine jX [0,1,2,3,4,5] hd ?_ (wr:=[(0,some (gD (E3.length:Nat) nt num p Eo (.row 8 9 fs2.length) (.slc none 0 (some 0)))),(1,some (oB E3)),(2,some (pB E3)),(4,none),(8,nY 8 fs2)]) (k2:=gU) (hle:=by exact⟨ah _,bB (congrArg nI (by push_cast;omega)),ah _,trivial⟩))|exact y5|fail)
    exact Fin.fd 8 (.inl rfl) rfl rfl rfl rfl rfl rfl rfl rfl
  ·rw[if_neg hb]
   refine wW Tryz.func126 ?_
   repeat'(first|refine yA ?_|refine y2 ?_ ?_|refine y4 λh=>?_|refine wX (bD [0,1,2,3,4,5] had ?_)|exact y5|fail)
   all_goals exact Fin.f4 (.inl rfl) rfl rfl rfl rfl rfl rfl rfl
 ·rcases hao with ⟨rfl,_⟩|⟨h,_⟩
  ·rw[if_pos he]
   refine wW Tryz.func126 ?_
   repeat'(first|refine yA ?_|refine y2 ?_ ?_|refine y4 λh=>?_|refine wX (bD [0,1,2,3,4,5] had ?_)|exact y5|fail)
   all_goals exact Fin.f4 (.inl rfl) rfl rfl rfl rfl rfl rfl rfl
  all_goals grind
end
theorem w4 (nt num:Int) (p:List Nd) (Eo:List Nat) (hp:p.length<=2048) (hw:oh p) (hI:li p) (hO:∀ j,j<p.length->aN p j=false) (hNA:∀ j,j<p.length->kN p j) (hE:EOK p Eo):∀ N,DecP nt num p Eo N
 |0=>λx k i sc E fs hN=>absurd hN (Z1m _)
 |N+1=>Mp nt num p Eo hp hw hI hO hNA hE N (MB nt num p Eo hp hE N (Fk nt num p Eo hp hE N (w4 nt num p Eo hp hw hI hO hNA hE N)))
def Ax (E:List Ent):List Pth->Option Nat
 |[]=>none
 |c::t=>match oP 0 E (aM c) with|some i=>some i|none=>Ax E t
def fw (E:List Ent) (s nm:By):Option Nat:=if (ai s).2=true/\(ai nm).2=true then Ax E (aS (ai s).1 (ai nm).1) else none
theorem Ep {E:List Ent}:∀ {cs:List Pth} {k:Nat},Ax E cs=some k->k<E.length
 |[],_,h=>by cases h
 |c::t,k,h=>by
  rw[Ax] at h
  cases h1:oP 0 E (aM c) with
  |some i=>
   rw[h1] at h;cases h;have:=(lV h1).2.1;omega
  |none=>rw[h1] at h;exact Ep h
theorem vX {E:List Ent} {s nm:By} {k:Nat} (h:fw E s nm=some k):k<E.length:=by
 unfold fw at h;split at h
 ·exact Ep h
 ·cases h
theorem lJ {s:By} (h:(ai s).2=true):aG (ai s).1=true:=by
 unfold ai eP fQ at h |-
 repeat' split at h
 all_goals simp_all
 all_goals (rw[if_neg aa];assumption)
theorem Kc (nt num:Int) (p:List Nd) (Eo:List Nat) (x y:Value) (E:List Ent) (s nm:By) (hs:s.length<9223372036854775807) (hn:nm.length<9223372036854775807):
 FQ 20 [.s (.ptr (some (0,0))),sV s,sV nm] 6 (CG nt num p Eo (.cst x) (.cst y) E) (.tup [.s (.int .i64 (((fw E s nm).getD 0:Nat):Int)),.s (.bool (fw E s nm).isSome)]) 6 (CG nt num p Eo (.cst x) (.cst y) E):=by
 have h1:=gq s hs;have h2:=gq nm hn;have hv:= @lJ s;unfold fw;generalize ai s=r1 at h1 hv |-;generalize ai nm=r2 at h2 |-;obtain⟨q1,ok1⟩:=r1;obtain⟨q2,ok2⟩:=r2;refine wW Tryz.func20 ?_;cases ok1
 ·
  repeat'(first|refine yA ?_|refine y2 ?_ ?_|refine an h1 ?_|exact y5|fail)
  exact bK
 cases ok2
 ·
  repeat'(first|refine yA ?_|refine y2 ?_ ?_|refine an h1 ?_|refine an h2 ?_|exact y5|fail)
  exact bK
 simp only[and_self,if_true];have hcd:=ze q1 q2;have hroot:= @lb q1 q2;have hcl:=ny q1 q2;obtain⟨hu0,_,hseg,_,_,_⟩:=aR (hv rfl);simp only at hseg hu0;generalize aS q1 q2=cs at*
 repeat'(first|refine yA ?_|refine y2 ?_ ?_|refine an h1 ?_|refine an h2 ?_|refine an hcd ?_|exact y5|fail)
 refine cy (σ:=Nat) (λj=>[(33,nI j)]) (λj=>CG nt num p Eo (.cst x) (.cst y) E) (λj=>j<=cs.length/\Ax E (cs.drop j)=Ax E cs) (λj=>cs.length-j) 0 rfl (λ_=>rfl) ⟨Z08 _,rfl⟩ aP ⟨rfl,rfl,rfl,trivial⟩ ?_;rintro j ⟨j1,j2⟩;by_cases hj:j<cs.length
 ·rw[Z0k hj] at j2
  have hg:cs.getD j z0=cs[j]:=ae;have hrt:(cs.getD j z0).root=true:=ae;have hf:=qh (cs.getD j z0) hrt;rw[<-hg,Ax] at j2
  cases hl:oP 0 E (aM (cs.getD j z0)) with
  |none=>
   rw[hl] at j2
   repeat'(first|refine y1 ?_|refine y2 ?_ ?_|refine y4 λh=>?_|refine an hf ?_|refine RegX.pLk none rfl rfl rfl rfl rfl rfl hl rfl ?_|refine y3 ?_|exact y5|fail)
   exact dz (j+1) ⟨hj,j2⟩ aa rfl aP ⟨rfl,rfl,rfl,trivial⟩ rfl rfl ac
  |some k=>
   rw[hl] at j2;simp only at j2
   repeat'(first|refine y1 ?_|refine y2 ?_ ?_|refine y4 λh=>?_|refine an hf ?_|refine RegX.pLk (some k) rfl rfl rfl rfl rfl rfl hl rfl ?_|refine y3 ?_|exact y5|fail)
   rw[<-j2];exact bK
 ·have hd:cs.drop j=[]:=ae
  rw[hd] at j2;simp only[Ax] at j2;rw[<-j2]
  repeat'(first|refine yA ?_|refine y2 ?_ ?_|refine y4 λh=>?_|exact y5|fail)
  all_goals exact bK
def eY (p:List Nd) (E:List Ent) (s:By) (i:Nat) (op:Int):Option Nat:=
 match fw E s (p.getD i dN).str with
 |some k=>if (E.getD k eZ).op=op then some k else none
 |none=>none
abbrev rL (nt num:Int) (p:List Nd) (Eo:List Nat) (fc:S) (E:List Ent) (rs:List Int):Hp:=[(0,some (gD (E.length:Nat) nt num p Eo fc (.row 4 5 rs.length))),(1,some (oB E)),(2,some (pB E)),(4,h_ 4 rs)]
abbrev JQ (nt num:Int) (p:List Nd) (Eo:List Nat) (fc:S) (E:List Ent) (rs:List Int):Hp:=[(0,some (gD (E.length:Nat) nt num p Eo fc (.row 6 7 rs.length))),(1,some (oB E)),(2,some (pB E)),(4,none),(6,h_ 6 rs)]
abbrev Mb (l:List Int):List S:=l.map λz=>S.int .i64 z
theorem DL {nt num:Int} {p:List Nd} {Eo:List Nat} {E:List Ent} {rs:List Int} {x:Value}:fg 8 (JQ nt num p Eo (.cst x) E rs)=true:=by
 unfold JQ h_;generalize List.map _ rs=cg
 cases cg<;>rfl
section
variable {P:Program} {fn:Func} {env:List V} {nt num:Int} {p:List Nd} {Eo:List Nat} {E:List Ent} {z z':Int} {b b':Bool} {e:Exit} {M:Hp} {m:Nat} {rs rs':List Int} {x:Value}
theorem Fin.rd (c:Nat) (hx:e=.ret\/e=.normal) (h0:lk M 0=some (gD (E.length:Nat) nt num p Eo (.cst x) (.row c (c+1) rs.length))) (h1:lk M 1=some (oB E)) (h2:lk M 2=some (pB E)) (h4:lk M c=h_ c rs)
 (hr:gC P fn env M=some (.tup [.s (.int .i64 z'),.s (.bool b')])) (hn:co (List.range 6++[c,c+1])=true) (hz:z'=z) (hb:b'=b) (hf:rs=rs'):Fin P fn 6 (.tup [.s (.int .i64 z),.s (.bool b)]) 8 (JQ nt num p Eo (.cst x) E rs') e env m M:=by
 subst hz;subst hf;subst hb;exact⟨hx,_,[c,c+1],ah _,fY hr ⟨h0,h1,h2,bh h4 trivial⟩ rfl DL rfl hn⟩
theorem Fin.r4 (hx:e=.ret\/e=.normal) (h0:lk M 0=some (gD (E.length:Nat) nt num p Eo (.cst x) (.row 4 5 rs.length))) (h1:lk M 1=some (oB E)) (h2:lk M 2=some (pB E)) (h4:lk M 4=h_ 4 rs)
 (hr:gC P fn env M=some (.tup [.s (.int .i64 z'),.s (.bool b')])) (hz:z'=z) (hb:b'=b) (hf:rs=rs'):Fin P fn 6 (.tup [.s (.int .i64 z),.s (.bool b)]) 8 (JQ nt num p Eo (.cst x) E rs') e env m M:=by
 subst hz;subst hf;subst hb;refine⟨hx,_,[4,5],ah _,uI hr ⟨h0,h1,h2,bh h4 trivial⟩ rfl DL rfl ?_ ?_⟩
 ·unfold JQ h_
  generalize List.map _ rs=cg
  cases cg<;>rfl
 ·unfold JQ h_
  generalize List.map _ rs=cg
  cases cg<;>rfl
end
theorem yM (nt num:Int) (p:List Nd) (Eo:List Nat) (hw:oh p) (x:Value) (E:List Ent) (rs:List Int) (hrs:rs.length<=100000) (s:By) (hs:s.length<9223372036854775807) (i:Nat) (hi:i<p.length) (op:Int):
 FQ 127 [.s (.ptr (some (0,0))),sV s,nI i,nI op] 6 (rL nt num p Eo (.cst x) E rs) (.tup [.s (.int .i64 (((eY p E s i op).getD 0:Nat):Int)),.s (.bool (eY p E s i op).isSome)]) 8 (JQ nt num p Eo (.cst x) E (rs++(eY p E s i op).toList.map λ(n:Nat)=>(n:Int))):=by
 have hk:=Eg (fs:=.cst x) (rs:=.row 4 5 rs.length) rfl rfl λa b=>Kc nt num p Eo a b E s (p.getD i dN).str hs (sG hw i)
 have hlt:= @vX E s (p.getD i dN).str;unfold eY;generalize fw E s (p.getD i dN).str=r at hk hlt |-;refine wW Tryz.func127 ?_
 cases r with
 |none=>
  repeat'(first|refine yA ?_|refine y2 ?_ ?_|refine wX (bD [0,1,2,3,4,5] hk ?_)|exact y5|fail)
  exact Fin.r4 (.inl rfl) rfl rfl rfl rfl rfl rfl rfl (Z0u _).symm
 |some k=>
  have hk2:=hlt rfl;have hsz1:(Tryz.prog.types[3]).size=1:=aK;have hby1:(Tryz.prog.types[3]).bytes=8:=aK;simp only;by_cases ho:(E.getD k eZ).op=op
  ·rw[if_pos ho]
   repeat'(first|refine y1 ?_|refine y2 ?_ ?_|refine y4 λh=>?_|refine wX (bD [0,1,2,3,4,5] hk ?_)|refine RegX.oLk k rfl rfl rfl hk2 rfl rfl rfl rfl rfl ?_|refine gZ (i:=4) (g:=5) (m:=rs.length) (w:=1) (cs:=Mb rs) (foot:=[6]) (k:=1) (add:=[.int .i64 (k:Int)]) rfl rfl (by simp[Mb]) rfl rfl rfl rfl rfl rfl rfl hsz1 ac rfl ⟨Z02 _,rfl⟩ ac aq rfl (by rw[hby1];omega) aa rfl ?_|refine y3 ?_|exact y5|fail)
   refine Fin.rd 7 (.inl rfl) ?_ rfl rfl ?_ rfl rfl rfl rfl rfl
   ·rw[Z03];rfl
   ·show fq _ _ _ _=fq _ _ _ _
    rw[Z0d];rfl
  ·rw[if_neg ho]
   repeat'(first|refine y1 ?_|refine y2 ?_ ?_|refine y4 λh=>?_|refine wX (bD [0,1,2,3,4,5] hk ?_)|refine RegX.oLk k rfl rfl rfl hk2 rfl rfl rfl rfl rfl ?_|refine y3 ?_|exact y5|fail)
   exact Fin.r4 (.inl rfl) rfl rfl rfl rfl rfl rfl rfl (Z0u _).symm
def tg (sp ba ln:Int):Bool:=if ln<1\/1048576<ln then false else if sp=0\/sp=1 then true else if sp=3 then decide (ba<=256/\ba+ln<=256) else false
theorem Jt (sp ba ln:Int) (h0:0<=ba) (h1:ba<=9223372036854775808) (h2:0<=ln) (h3:ln<=1099511627776):FQ 188 [.agg [.int .i64 sp,.int .u64 ba,.int .u64 ln]] 0 [] (bV (tg sp ba ln)) 0 []:=by
 refine wW Tryz.func188 ?_;unfold tg
 repeat'(first|refine y1 ?_|refine y2 ?_ ?_|refine y4 λh=>?_|refine cL (.inl rfl) rfl ?_|refine y3 ?_|exact y5|fail)
 all_goals (repeat (first|rw[if_pos aa]|rw[if_neg aa]))<;>first
  |rfl
  |(symm;apply decide_eq_true;omega)
  |(symm;apply decide_eq_false;omega)
theorem GD {a b:Int} (h0:0<=a) (h1:a<18446744073709551616) (hb:0<=b):IntKind.u64.wrap (a.tdiv b)=a.tdiv b:=by
 have:=Z5r h0 hb;have:=Z5l b h0;exact aU aa aa
def fM (sp ba ln bit len wid upd:Int):Bool:=
 if tg sp ba ln=false then false
 else if ¬(wid=1\/wid=2\/wid=4\/wid=8) then false
 else if (sp=3/\wid≠1)\/ba.tmod wid≠0 then false
 else if upd<0\/2<upd\/bit<0\/len<1\/256<len then false
 else decide ((bit+len-1).tdiv (8*wid)<ln.tdiv wid)
theorem zG (sp ba ln bit len wid upd idx dat:Int) (h0:0<=ba) (h1:ba<=9223372036854775808) (h2:0<=ln) (h3:ln<=1099511627776) (h4:bit<=1099511627776):
 FQ 129 [.agg [.int .i64 sp,.int .u64 ba,.int .u64 ln,.int .i64 bit,.int .i64 len,.int .i64 wid,.int .i64 upd,.int .i64 idx,.int .i64 dat]] 0 [] (bV (fM sp ba ln bit len wid upd)) 0 []:=by
 have hr:=Jt sp ba ln h0 h1 h2 h3
 have hu:∀ w:Int,wid=w->(w=1\/w=2\/w=4\/w=8)->FQ 189 [.agg [.int .i64 sp,.int .u64 ba,.int .u64 ln,.int .i64 bit,.int .i64 len,.int .i64 w,.int .i64 upd,.int .i64 idx,.int .i64 dat]] 0 [] (.s (.int .u64 (8*w))) 0 []:=by
  rintro w rfl hw;refine wW Tryz.func189 ?_
  repeat'(first|refine y1 ?_|refine y2 ?_ ?_|exact aU aa aa|refine jk (.inl rfl) rfl ?_ rfl|refine y3 ?_|exact y5|fail)
 unfold fM;refine wW Tryz.func129 ?_
 cases hb:tg sp ba ln<;>rw[hb] at hr
 ·
  repeat'(first|refine y1 ?_|refine y2 ?_ ?_|refine bG hr ?_|refine cL (.inl rfl) rfl ?_|refine y3 ?_|exact y5|fail)
 rw[if_neg aq];by_cases hw:wid=1\/wid=2\/wid=4\/wid=8
 ·rw[if_neg (λh=>h hw)]
  have hu:=hu wid rfl hw
  repeat'(first|refine y1 ?_|refine y2 ?_ ?_|refine y4 λh=>?_|refine bG hr ?_|refine an hu ?_|exact GD aa aa aa|refine cL (.inl rfl) rfl ?_|refine y3 ?_|exact y5|fail)
  all_goals (repeat (first|rw[if_pos aa]|rw[if_neg aa]))<;>first
   |rfl
   |(symm;apply decide_eq_true;assumption)
   |(symm;apply decide_eq_false;assumption)
 ·rw[if_pos hw]
  repeat'(first|refine y1 ?_|refine y2 ?_ ?_|refine y4 λh=>?_|refine bG hr ?_|refine cL (.inl rfl) rfl ?_|refine y3 ?_|exact y5|fail)
