import Derived.Test.YtegjgpldfgjoiaaGreatDoorCnB15
import Derived.Test.YtegjgpldfgjoiaaGreatDoorCnB14
set_option linter.unusedSimpArgs false
set_option linter.unusedVariables false
namespace Go.Proofs.YtegjgpldfgjoiaaGreatDoor
namespace Ab
open Go
theorem rY {α β:Type} {r:α->β->Prop}:∀ {l:List α} {xs:List β} {o:Nat} {s:α},All2 r l xs->l[o]? =some s->∃ x,xs[o]? =some x/\r s x
 |[],_,o,s,_,h=>by simp at h
 |a::l,x::xs,0,s,h,hs=>by
  simp only[List.getElem?_cons_zero,Option.some.injEq] at hs;subst hs;exact⟨x,rfl,h.1⟩
 |a::l,x::xs,o+1,s,h,hs=>by
  simp only[List.getElem?_cons_succ] at hs |-;exact rY h.2 hs
 |_::_,[],_,_,h,_=>h.elim
def jb (bl:Bl) (o:Nat) (x:S):Bl:={bl with cells:=bl.cells.set o x}
theorem iE {L:Hp} {i o:Nat} {bl:Bl} {x:S} (hl:lk L i=some bl) {j:Nat} {c:Bl} (h:lk (put L i (some (jb bl o x))) j=some c):∃ c',lk L j=some c'/\c'.ro=c.ro/\(j≠i->c'=c):=by
 rw[ax] at h;split at h
 ·rename_i e;subst e;cases h;exact⟨bl,hl,rfl,fun q=>absurd rfl q⟩
 ·exact⟨c,h,rfl,fun _=>rfl⟩
theorem iF {L:Hp} {i o:Nat} {bl:Bl} {x:S} (hl:lk L i=some bl) {j:Nat} {c:Bl} (h:lk L j=some c):∃ c',lk (put L i (some (jb bl o x))) j=some c'/\c'.ro=c.ro/\(j≠i->c'=c):=by
 rw[ax];split
 ·rename_i e;subst e;rw[hl] at h;cases h;exact⟨_,rfl,rfl,fun q=>absurd rfl q⟩
 ·exact⟨c,h,rfl,fun _=>rfl⟩
theorem oq {φ:Ph} {L:Hp} {i o:Nat} {bl:Bl} {x:S} (hl:lk L i=some bl) {b:Nat}:Wr φ (put L i (some (jb bl o x))) b↔Wr φ L b:=by
 constructor
 ·rintro⟨j,c,q,h1,h2,h3,h4⟩
  obtain⟨c',k1,k2,_⟩:=iE hl h1;exact⟨j,c',q,k1,h2,h3,k2.trans h4⟩
 ·rintro⟨j,c,q,h1,h2,h3,h4⟩
  obtain⟨c',k1,k2,_⟩:=iF (o:=o) (x:=x) hl h1;exact⟨j,c',q,k1,h2,h3,k2.trans h4⟩
theorem SC.cst {P:Program} {f:FuncId} {args:List V} {n:Nat} {L:Hp} {v:V} {n':Nat} {L':Hp} {i o i' o':Nat} {bl bl':Bl} {s:S} (hl:lk L i=some bl) (ho:bl.cells[o]? =some s) (hl':lk L' i'=some bl') (ho':bl'.cells[o']? =some s) (hj:isJ s=false) (hf:bl.flat=false) (hf':bl'.flat=false)
 (sc:∀ x:Value,eb x=true->SC P f args n (put L i (some (jb bl o (.cst x)))) v n' (put L' i' (some (jb bl' o' (.cst x))))):SC P f args n L v n' L':=by
 intro φ xs w hx hg hfr;obtain⟨b,hb,hat⟩:=hg.hr i bl hl;obtain⟨pre,cs,rest,fr,h1,h2,h3,h4,h5,h6⟩:=hat
 have eph:∀ φ:Ph,bl.ph φ=φ:=fun φ=>by unfold Bl.ph;rw[hf]
 have eph':∀ φ:Ph,bl'.ph φ=φ:=fun φ=>by unfold Bl.ph;rw[hf']
 obtain⟨x,hx1,hx2⟩:=rY h3 ho;rw[eph] at hx2;have hc:eb x=true:=hx2.cell hj
 have at1:BlAt φ w b (jb bl o (.cst x)):=⟨pre,cs,rest,fr,h1,h2,gD h3 (fun y hy=>by rw[hx1] at hy;cases hy;exact⟨rfl,hc⟩),h4,h5,h6⟩
 have hg1:Good φ (put L i (some (jb bl o (.cst x)))) w:=by
  refine⟨fun j c h=>?_,fun j k c c' q q' h k1 k2 k3 k4=>?_,fun b l h=>⟨(hg.fz b l h).1,fun hw=>(hg.fz b l h).2 ((oq hl).1 hw)⟩,hg.gz⟩
  ·rw[ax] at h
   split at h
   ·rename_i e;subst e;cases h;exact⟨b,hb,at1⟩
   ·exact hg.hr j c h
  ·obtain⟨d,e1,e2,_⟩:=iE hl h
   obtain⟨d',e1',e2',_⟩:=iE hl k1
   rcases hg.inj j k d d' q q' e1 e1' k2 k3 k4 with e|⟨e,e'⟩
   ·exact .inl e
   ·exact .inr ⟨e2▸e,e2'▸e'⟩
 refine (sc x hc φ xs w hx hg1 hfr).mono ?_;rintro e w' ⟨φ',y,he,hv,hg',hn,st,hle,hag⟩
 have hle2:φ.le φ':=⟨fun j q hjq=>by
  by_cases h:j<n
  ·rw[hag j h];exact hjq
  ·rw[hfr j (by omega)] at hjq;exact (by cases hjq),st.zle⟩
 have lk1:lk (put L' i' (some (jb bl' o' (.cst x)))) i'=some (jb bl' o' (.cst x)):=by rw[ax,if_pos rfl]
 obtain⟨b',hb',pre',cs',rest',fr',g1,g2,g3,g4,g5,g6⟩:=hg'.hr i' _ lk1
 have at2:BlAt φ' w' b' bl':=by
  refine⟨pre',cs',rest',fr',g1,g2,?_,g4,g5,g6⟩
  have hlt:o'<bl'.cells.length:=by
   rcases Nat.lt_or_ge o' bl'.cells.length with h|h
   ·exact h
   ·rw[List.getElem?_eq_none h] at ho';cases ho'
  have g3':All2 (Sr (bl'.ph φ')) (bl'.cells.set o' (.cst x)) cs':=g3
  have hback:bl'.cells=(bl'.cells.set o' (.cst x)).set o' s:=by
   refine List.ext_getElem? fun j=>?_
   rw[List.getElem?_set,List.length_set];split
   ·rename_i e;subst e;exact ho'
   ·rename_i e;rw[List.getElem?_set,if_neg e]
  rw[hback]
  refine gD g3' fun z hz=>?_
  have hz1:Sr (bl'.ph φ') (.cst x) z:=kM g3' (by rw[List.getElem?_set,if_pos rfl,if_pos hlt]) hz;obtain⟨rfl,_⟩:=hz1;rw[eph'];exact hx2.mono hle2
 have hg2:Good φ' L' w':=by
  refine⟨fun j c h=>?_,fun j k c c' q q' h k1 k2 k3 k4=>?_,fun b l h=>⟨(hg'.fz b l h).1,fun hw=>(hg'.fz b l h).2 ((oq hl').2 hw)⟩,hg'.gz⟩
  ·by_cases e:i'=j
   ·subst e;rw[hl'] at h;cases h;exact⟨b',hb',at2⟩
   ·exact hg'.hr j c (by rw[ax,if_neg e];exact h)
  ·obtain⟨d,e1,e2,_⟩:=iF (o:=o') (x:=.cst x) hl' h
   obtain⟨d',e1',e2',_⟩:=iF (o:=o') (x:=.cst x) hl' k1
   rcases hg'.inj j k d d' q q' e1 e1' k2 k3 k4 with e|⟨e,e'⟩
   ·exact .inl e
   ·exact .inr ⟨e2▸e,e2'▸e'⟩
 refine⟨φ',y,he,hv,hg2,hn,⟨st.os,st.tape,st.output,st.size,fun q hq hw=>st.keep q hq fun h=>hw ((oq hl).1 h),fun j c q h k1 k2=>?_,st.zle,fun q l h=>?_⟩,hle,hag⟩
 ·obtain⟨d,e1,e2,_⟩:=iF (o:=o') (x:=.cst x) hl' h
  obtain⟨k,c1,q1,r1,r2,r3,r4,r5⟩:=st.fresh j d q e1 k1 k2;obtain⟨d1,f1,f2,_⟩:=iE hl r1;exact⟨k,d1,q1,f1,r2,r3,fun h=>e2▸r4 (f2▸h),r5.imp id fun h=>f2.trans h⟩
 ·rcases st.zfr q l h with h|h|h
  ·exact .inl h
  ·exact .inr (.inl h)
  ·exact .inr (.inr ((oq hl).1 h))
end Ab
end Go.Proofs.YtegjgpldfgjoiaaGreatDoor
namespace Go.Proofs.YtegjgpldfgjoiaaGreatDoor
open Go Ab
set_option maxRecDepth 100000
set_option maxHeartbeats 2000000
def ldC (nx nt num:Int) (p:List Nd) (Eo:List Nat) (fs rs:S):List S:=[.map (some 1),.map (some 2),.map (some 3),.int .i64 nx,.int .i64 nt,.int .i64 num,.frz (fun k=>ndC (p.getD k dN)) 4 p.length,.frz (fun k=>[.int .i64 ((Eo.getD k 0:Nat):Int)]) 1 Eo.length,fs,rs]
abbrev ldB (nx nt num:Int) (p:List Nd) (Eo:List Nat) (fs rs:S):Bl:={cells:=ldC nx nt num p Eo fs rs,ty:=123}
def dB (p:List Nd) (i:Nat) (sc:Pth):Pth×Bool:=if (aq (p.getD i dN).str).2 then bp sc (aq (p.getD i dN).str).1 else (z0,false)
theorem zT (nt num:Int) (p:List Nd) (Eo:List Nat) (hw:wfN p) (nx:Int) (x y:Value) (i:Nat) (hi:i<p.length) (sc:Pth):
 FC Tryz.prog 183 [.s (.ptr (some (0,0))),ptV sc,nI i] 6 [(0,some (ldB nx nt num p Eo (.cst x) (.cst y)))] (psV (dB p i sc)) 6 [(0,some (ldB nx nt num p Eo (.cst x) (.cst y)))]:=by
 have hpa:=dY (p.getD i dN).str (nM hw i);unfold dB;generalize aq (p.getD i dN).str=r at hpa |-;obtain⟨q,ok⟩:=r;refine FC.walk (by kernel_rfl) Tryz.func183 rfl rfl ?_;cases ok
 ·
  repeat'(first|exact y0|refine y1 ?_|refine y2 ?_ ?_|(refine y8 ?_ ?_<;>intro h<;>try(first|contradiction|exact y6))|(refine wC ?_;first|refine wF 48 (pu hpa ?_))|refine y3 ?_|refine y7 ?_ ?_|refine y4 ?_|(refine y9 ?_ ?_<;>intro h)|exact y5|fail)
  exact⟨.inl rfl,_,[],fH rfl,EndOK.by rfl ⟨rfl,trivial⟩ rfl rfl rfl rfl⟩
 ·
  have hj:=zU sc q;simp only[if_true];generalize bp sc q=r2 at hj |-
  repeat'(first|exact y0|refine y1 ?_|refine y2 ?_ ?_|(refine y8 ?_ ?_<;>intro h<;>try(first|contradiction|exact y6))|(refine wC ?_;first|refine wF 48 (pu hpa ?_)|refine wF 95 (pu hj ?_))|refine y3 ?_|refine y7 ?_ ?_|refine y4 ?_|(refine y9 ?_ ?_<;>intro h)|exact y5|fail)
  exact⟨.inl rfl,_,[],VLe.refl _,EndOK.by rfl ⟨rfl,trivial⟩ rfl rfl rfl rfl⟩
def CB (z:Int):Bool:=decide (z=10\/z=11\/z=12)
def gX (E:List Ent) (q:Pth):Int×Bool:=match ixP 0 E (aL q) with
 |some k=>if CB (E.getD k eZ).op then ((k:Int),true) else (0,false)
 |none=>(0,false)
theorem AV (nt num:Int) (p:List Nd) (Eo:List Nat) (nx:Int) (x y:Value) (E:List Ent) (q:Pth) (hq:q.root=true):
 FC Tryz.prog 184 [.s (.ptr (some (0,0))),ptV q] 6 [(0,some (ldB nx nt num p Eo (.cst x) (.cst y))),(1,some (oB E)),(2,some (pB E))] (.tup [.s (.int .i64 (gX E q).1),.s (.bool (gX E q).2)]) 6 [(0,some (ldB nx nt num p Eo (.cst x) (.cst y))),(1,some (oB E)),(2,some (pB E))]:=by
 have hf:=lV q hq;unfold gX;generalize aL q=s at hf |-;refine FC.walk (by kernel_rfl) Tryz.func184 rfl rfl ?_
 cases h:ixP 0 E s with
 |none=>
  repeat'(first|exact y0|refine y1 ?_|refine y2 ?_ ?_|(refine y8 ?_ ?_<;>intro h<;>try(first|contradiction|exact y6))|(refine wC ?_;first|refine wF 50 (pu hf ?_))|refine RegX.pLk none rfl rfl rfl rfl rfl rfl h rfl ?_|refine y3 ?_|refine y7 ?_ ?_|refine y4 ?_|(refine y9 ?_ ?_<;>intro h)|exact y5|fail)
  exact⟨.inl rfl,_,[],VLe.refl _,EndOK.by rfl ⟨rfl,rfl,rfl,trivial⟩ rfl rfl rfl rfl⟩
 |some k=>
  obtain⟨_,hk,_⟩:=iS h;rw[Nat.zero_add] at hk;simp only;by_cases ho:CB (E.getD k eZ).op=true
  ·rw[if_pos ho]
   unfold CB at ho;rw[decide_eq_true_eq] at ho
   repeat'(first|exact y0|refine y1 ?_|refine y2 ?_ ?_|(refine y8 ?_ ?_<;>intro h<;>try(exact y6))|(refine wC ?_;first|refine wF 50 (pu hf ?_))|refine RegX.pLk (some k) rfl rfl rfl rfl rfl rfl h rfl ?_|refine RegX.oLk k rfl rfl rfl hk rfl rfl rfl rfl rfl ?_|refine y3 ?_|refine y7 ?_ ?_|refine y4 ?_|(refine y9 ?_ ?_<;>intro h)|exact y5|fail)
   all_goals exact⟨.inl rfl,_,[],VLe.refl _,EndOK.by rfl ⟨rfl,rfl,rfl,trivial⟩ rfl rfl rfl rfl⟩
  ·rw[if_neg ho]
   unfold CB at ho;rw[decide_eq_true_eq] at ho
   repeat'(first|exact y0|refine y1 ?_|refine y2 ?_ ?_|(refine y8 ?_ ?_<;>intro h<;>try(exact y6))|(refine wC ?_;first|refine wF 50 (pu hf ?_))|refine RegX.pLk (some k) rfl rfl rfl rfl rfl rfl h rfl ?_|refine RegX.oLk k rfl rfl rfl hk rfl rfl rfl rfl rfl ?_|refine y3 ?_|refine y7 ?_ ?_|refine y4 ?_|(refine y9 ?_ ?_<;>intro h)|exact y5|fail)
   all_goals exact⟨.inl rfl,_,[],VLe.refl _,EndOK.by rfl ⟨rfl,rfl,rfl,trivial⟩ rfl rfl rfl rfl⟩
set_option maxRecDepth 100000
set_option maxHeartbeats 1000000
def dgC (x:Nat×Nat):List S:=[.int .i64 (x.1:Int),.int .i64 (x.2:Int)]
structure Dc where
 path:By
 op:Int
 node:Nat
def dcC (x:Dc):List S:=[.str x.path,.int .i64 x.op,.int .i64 (x.node:Int)]
abbrev anB (p:List Nd) (d nD g nG:Nat):Bl:=
 {cells:=[.frz (fun k=>ndC (p.getD k dN)) 4 p.length,.slc (some (1,0)) p.length (some p.length),.row d (d+1) nD,.map (some 5),.row g (g+1) nG],ty:=186}
abbrev dgB (g:Nat) (G:List (Nat×Nat)):Option Bl:=opB 112 (g+1) 2 (G.flatMap dgC)
abbrev dcB (d:Nat) (D:List Dc):Option Bl:=opB 58 (d+1) 3 (D.flatMap dcC)
theorem tA:∀ G:List (Nat×Nat),(G.flatMap dgC).length=G.length*2
 |[]=>rfl
 |x::G=>by rw[List.flatMap_cons,List.length_append,tA G];simp only[List.length_cons];simp[dgC];omega
theorem tE:∀ D:List Dc,(D.flatMap dcC).length=D.length*3
 |[]=>rfl
 |x::D=>by rw[List.flatMap_cons,List.length_append,tE D];simp only[List.length_cons];simp[dcC];omega
theorem Dk (G:List (Nat×Nat)) (x:Nat×Nat):(G++[x]).flatMap dgC=G.flatMap dgC++dgC x:=by rw[List.flatMap_append];simp
theorem Dn (D:List Dc) (x:Dc):(D++[x]).flatMap dcC=D.flatMap dcC++dcC x:=by rw[List.flatMap_append];simp
theorem bB (p:List Nd) (nD:Nat) (G:List (Nat×Nat)) (i c:Nat) (hG:G.length<=1000000000000):
 FC Tryz.prog 117 [.s (.ptr (some (0,0))),nI i,nI c] 8 [(0,some (anB p 3 nD 6 G.length)),(6,dgB 6 G)] .any 10 [(0,some (anB p 3 nD 8 (G.length+1))),(6,none),(8,dgB 8 (G++[(i,c)]))]:=by
 have hsz:(Tryz.prog.types[112]).size=2:=by kernel_rfl
 have hby:(Tryz.prog.types[112]).bytes=16:=by kernel_rfl
 rw[dgB,dgB,Dk];refine FC.walk (by kernel_rfl) Tryz.func117 rfl rfl ?_
 repeat'(first|exact y0|refine y1 ?_|refine y2 ?_ ?_|(refine y8 ?_ ?_<;>intro h<;>try exact y6)|refine y3 ?_|refine y7 ?_ ?_|refine y4 ?_|(refine y9 ?_ ?_<;>intro h)|exact y5|fail)
 ·refine RegX.apr (i:=6) (g:=7) (m:=G.length) (w:=2) (cs:=G.flatMap dgC) (foot:=[8]) (k:=1) (add:=dgC (i,c)) rfl rfl (tA G) rfl rfl rfl rfl rfl rfl rfl hsz (by decide) rfl ⟨Nat.le_refl _,rfl⟩ (by decide) (by simp[dgC]) rfl ?_ (by omega) rfl ?_
  ·rw[hby];omega
  repeat'(first|exact y0|refine y1 ?_|refine y2 ?_ ?_|(refine y8 ?_ ?_<;>intro h<;>try exact y6)|refine y3 ?_|refine y7 ?_ ?_|refine y4 ?_|(refine y9 ?_ ?_<;>intro h)|exact y5|fail)
  refine⟨.inr rfl,.tup [],[9,10],VLe.any _,EndOK.by rfl ?_ rfl ?_ rfl rfl⟩
  ·refine⟨rfl,MemP.op rfl trivial⟩
  ·refine (aT rfl rfl rfl)
def rK (F:List (By×Nat)) (path:By) (i:Nat):List (By×Nat):=match lkF F path with|some _=>F|none=>F++[(path,i)]
def l7 (F:List (By×Nat)) (G:List (Nat×Nat)) (path:By) (i:Nat):List (Nat×Nat):=match lkF F path with|some _=>G++[(i,3)]|none=>G
theorem wU (p:List Nd) (D:List Dc) (F:List (By×Nat)) (G:List (Nat×Nat)) (i:Nat) (path:By) (hi:i<p.length) (hD:D.length<=1000000000000) (hG:G.length<=1000000000000):
 FC Tryz.prog 226 [.s (.ptr (some (0,0))),nI i,sV path] 8 [(0,some (anB p 3 D.length 6 G.length)),(3,dcB 3 D),(5,some (a_ F)),(6,dgB 6 G)] .any 12
  [(0,some (anB p 8 (D.length+1) 10 (l7 F G path i).length)),(3,none),(6,none),(5,some (a_ (rK F path i))),(8,dcB 8 (D++[⟨path,(p.getD i dN).op,i⟩])),(10,dgB 10 (l7 F G path i))]:=by
 have hsz:(Tryz.prog.types[58]).size=3:=by kernel_rfl
 have hby:(Tryz.prog.types[58]).bytes=32:=by kernel_rfl
 have hzr:∀ w,(zeroValue 3).run Tryz.prog w=.ok (.int .i64 0) w:=fun w=>by rw[Tryz.zeroValue3]
 rw[dcB,dcB,Dn];refine FC.walk (by kernel_rfl) Tryz.func226 rfl rfl ?_
 cases hl:lkF F path with
 |some v=>
  have e1:rK F path i=F:=by unfold rK;rw[hl]
  have e2:l7 F G path i=G++[(i,3)]:=by unfold l7;rw[hl]
  rw[e1,e2,List.length_append,List.length_singleton]
  repeat'(first|exact y0|refine y1 ?_|refine y2 ?_ ?_|(refine y8 ?_ ?_<;>intro h<;>try exact y6)|refine RegX.lkp (some v) rfl rfl rfl rfl rfl hzr hl rfl ?_|refine y3 ?_|refine y7 ?_ ?_|refine y4 ?_|(refine y9 ?_ ?_<;>intro h)|exact y5|fail)
  refine RegX.atCall (CallG.mo [0,1,2,3,4,5,6,7] (bB p D.length G i 3 hG) rfl (aT rfl rfl rfl) rfl rfl rfl ⟨VLe.refl _,VLe.refl _,VLe.refl _,trivial⟩ ⟨⟨rfl,_,rfl,rfl,fun h=>h⟩,FitP.op rfl rfl trivial⟩ rfl rfl (wr:=[(0,some (anB p 3 D.length 8 (G.length+1))),(6,none),(8,dgB 8 (G++[(i,3)]))]) ?_ ?_)
  ·show [_,_,_]=_;rw[ah];rfl
  repeat'(first|exact y0|refine y1 ?_|refine y2 ?_ ?_|(refine y8 ?_ ?_<;>intro h<;>try exact y6)|refine y3 ?_|refine y7 ?_ ?_|refine y4 ?_|(refine y9 ?_ ?_<;>intro h)|exact y5|fail)
  all_goals try omega
  refine RegX.apr (i:=3) (g:=4) (m:=D.length) (w:=3) (cs:=D.flatMap dcC) (foot:=[10]) (k:=1) (add:=dcC ⟨path,(p.getD i dN).op,i⟩) rfl rfl (tE D) rfl rfl rfl rfl rfl rfl rfl hsz (by decide) rfl ⟨Nat.le_refl _,rfl⟩ (by decide) (by simp[dcC]) rfl ?_ (by omega) rfl ?_
  ·rw[hby];omega
  repeat'(first|exact y0|refine y1 ?_|refine y2 ?_ ?_|(refine y8 ?_ ?_<;>intro h<;>try exact y6)|refine y3 ?_|refine y7 ?_ ?_|refine y4 ?_|(refine y9 ?_ ?_<;>intro h)|exact y5|fail)
  refine⟨.inr rfl,.tup [],[11,12,8,9],VLe.any _,EndOK.by rfl ?_ rfl ?_ rfl rfl⟩
  ·exact⟨rfl,rfl,MemP.op rfl (MemP.op rfl trivial)⟩
  ·exact aT (t:=[(10,dgB 10 (G++[(i,3)]))]) rfl rfl (aT rfl rfl rfl)
 |none=>
  have e1:rK F path i=F++[(path,i)]:=by unfold rK;rw[hl]
  have e2:l7 F G path i=G:=by unfold l7;rw[hl]
  rw[e1,e2]
  repeat'(first|exact y0|refine y1 ?_|refine y2 ?_ ?_|(refine y8 ?_ ?_<;>intro h<;>try exact y6)|refine RegX.lkp none rfl rfl rfl rfl rfl hzr hl rfl ?_|refine RegX.mup i rfl rfl rfl rfl rfl rfl rfl hl rfl ?_|refine y3 ?_|refine y7 ?_ ?_|refine y4 ?_|(refine y9 ?_ ?_<;>intro h)|exact y5|fail)
  all_goals try omega
  refine RegX.apr (i:=3) (g:=4) (m:=D.length) (w:=3) (cs:=D.flatMap dcC) (foot:=[8]) (k:=1) (add:=dcC ⟨path,(p.getD i dN).op,i⟩) rfl rfl (tE D) rfl rfl rfl rfl rfl rfl rfl hsz (by decide) rfl ⟨Nat.le_refl _,rfl⟩ (by decide) (by simp[dcC]) rfl ?_ (by omega) rfl ?_
  ·rw[hby];omega
  repeat'(first|exact y0|refine y1 ?_|refine y2 ?_ ?_|(refine y8 ?_ ?_<;>intro h<;>try exact y6)|refine y3 ?_|refine y7 ?_ ?_|refine y4 ?_|(refine y9 ?_ ?_<;>intro h)|exact y5|fail)
  refine⟨.inr rfl,.tup [],[9,10,6,7],VLe.any _,EndOK.move rfl ?_ rfl ?_ rfl ?_ ?_⟩
  ·exact⟨rfl,rfl,MemP.op rfl (MemP.op rfl trivial)⟩
  ·exact aT (t:=[(10,dgB 10 G)]) rfl rfl (aT rfl rfl rfl)
  ·rcases G with _|⟨x,G⟩<;>rcases D with _|⟨y,D⟩<;>rfl
  ·rcases G with _|⟨x,G⟩<;>rcases D with _|⟨y,D⟩<;>rfl
set_option maxRecDepth 100000
structure St where
 S:List Pth
 D:List Dc
 F:List (By×Nat)
 G:List (Nat×Nat)
def St.rep (s:St) (i c:Nat):St:={s with G:=s.G++[(i,c)]}
def St.dec (s:St) (i:Nat) (path:By) (op:Int):St:={S:=s.S,D:=s.D++[⟨path,op,i⟩],F:=rK s.F path i,G:=l7 s.F s.G path i}
def St.sc (s:St) (i:Nat) (sc:Pth):St:={s with S:=s.S.set i sc}
def ew:Fo->Pth
 | .cons y _ _=>(aq y.str).1
 | .nil=>z0
def dD (x:Nd) (nm:Pth) (i:Nat) (sc:Pth) (s:St):Pth×St:=
 if x.op=10 then (if (bp sc nm).2 then ((bp sc nm).1,s.sc i sc) else (sc,(s.sc i sc).rep i 2))
 else if x.op=16\/x.op=17\/x.op=19 then (sc,s.sc i sc)
 else if (bp sc nm).2 then (if x.op=11\/x.op=12 then (bp sc nm).1 else sc,(s.sc i sc).dec i (aL (bp sc nm).1) x.op)
 else (sc,(s.sc i sc).rep i 2)
def m6 (op:Int):Bool:=decide (op=10\/op=11\/op=12\/op=16\/op=17)
def aO:Bool->Fo->Nat->Pth->St->St
 |_,.nil,_,_,s=>s
 |true,.cons x k n,i,sc,s=>if x.op=4 then aO false k (i+1) sc s else aO true n (i+1+k.size) sc s
 |false,.cons x k n,i,sc,s=>
  aO false n (i+1+k.size) sc (if m6 x.op then aO true k (i+1) (dD x (ew k) i sc s).1 (dD x (ew k) i sc s).2 else (dD x (ew k) i sc s).2)
theorem AN (F:List (By×Nat)) (G:List (Nat×Nat)) (path:By) (i:Nat):(l7 F G path i).length<=G.length+1:=by
 unfold l7;split<;>simp
theorem mZ (x:Nd) (nm:Pth) (i:Nat) (sc:Pth) (s:St):(dD x nm i sc s).2.S.length=s.S.length/\(dD x nm i sc s).2.D.length<=s.D.length+1/\(dD x nm i sc s).2.G.length<=s.G.length+1:=by
 have:=AN s.F s.G (aL (bp sc nm).1) i;unfold dD;split
 ·split<;>simp[St.sc,St.rep]
 ·split
  ·simp[St.sc]
  ·split<;>simp[St.sc,St.rep,St.dec]
   exact this
theorem bh:∀ (m:Bool) (t:Fo) (i:Nat) (sc:Pth) (s:St),(aO m t i sc s).S.length=s.S.length/\(aO m t i sc s).D.length<=s.D.length+t.size/\(aO m t i sc s).G.length<=s.G.length+t.size
 |true,.nil,_,_,s=>⟨rfl,Nat.le_refl _,Nat.le_refl _⟩
 |false,.nil,_,_,s=>⟨rfl,Nat.le_refl _,Nat.le_refl _⟩
 |true,.cons x k n,i,sc,s=>by
  simp only[aO,Fo.size];split
  ·have:=bh false k (i+1) sc s;omega
  ·have:=bh true n (i+1+k.size) sc s;omega
 |false,.cons x k n,i,sc,s=>by
  simp only[aO,Fo.size];have h:=mZ x (ew k) i sc s;split
  ·have h1:=bh true k (i+1) (dD x (ew k) i sc s).1 (dD x (ew k) i sc s).2
   have h2:=bh false n (i+1+k.size) sc (aO true k (i+1) (dD x (ew k) i sc s).1 (dD x (ew k) i sc s).2);omega
  ·have h2:=bh false n (i+1+k.size) sc (dD x (ew k) i sc s).2
   omega
theorem sm {t:Fo} (h:t.V []):t=.nil:=by
 cases t with
 |nil=>rfl
 |cons x k n=>simp[Fo.V] at h
theorem F9 {t:Fo} {sl:Bool×Int} {cs:List (Bool×Int)} (h:t.V (sl::cs)):∃ y k n,t=.cons y k n/\n.V cs:=by
 cases t with
 |nil=>exact h.elim
 |cons x k n=>
  obtain⟨b,c⟩:=sl;cases b
  ·exact⟨x,k,n,rfl,h.2.2⟩
  ·exact⟨x,k,n,rfl,h.2.2⟩
def mW (c:Int):Bool:=decide (c=110\/c=115\/c=105\/c=73)
theorem pF {t:Fo} {c:Int} {cs:List (Bool×Int)} (hc:mW c=true) (h:t.V ((false,c)::cs)):∃ y n,t=.cons y .nil n/\n.V cs/\(y.op=3\/y.op=1):=by
 cases t with
 |nil=>exact h.elim
 |cons x k n=>
  obtain⟨⟨h1,_,h2⟩,h3,h4⟩:=h
  have hop:x.op=3\/x.op=1:=by
   unfold mW at hc;simp only[decide_eq_true_eq] at hc;unfold dI at h1
   rcases hc with rfl|rfl|rfl|rfl<;>simp at h1<;>simp[h1]
  have hk:(aD x.op x.kids).1=[]:=by rcases hop with e|e<;>rw[e]<;>rfl
  rw[hk] at h3;have:=sm h3;subst this;exact⟨x,n,rfl,h4,hop⟩
theorem vE {t:Fo} {c:Int} {cs:List (Bool×Int)} (h:t.V ((true,c)::cs)):∃ y bl n,t=.cons y bl n/\n.V cs/\y.op=4/\bl.V (List.replicate bl.cnt (false,c)):=by
 cases t with
 |nil=>exact h.elim
 |cons x k n=>exact⟨x,k,n,rfl,h.2.2,h.1.1,h.2.1⟩
theorem fa {p:List Nd} {c':Int}:∀ (ls:List Int) (t:Fo) (i:Nat),(ls.all mW)=true->t.V (ls.map (fun c=>(false,c))++[(true,c')])->t.At p i->
 ∃ bl:Fo,bl.V (List.replicate bl.cnt (false,c'))/\bl.At p (i+ls.length+1)/\t.size=ls.length+1+bl.size/\t.cnt=ls.length+1/\(t.starts i).getD ls.length 0=i+ls.length/\∀ sc s,aO true t i sc s=aO false bl (i+ls.length+1) sc s
 |[],t,i,_,h,ha=>by
  obtain⟨y,bl,n,rfl,h1,h2,h3⟩:=vE h;have:=sm h1;subst this;refine⟨bl,h3,ha.2.2.1,by simp only[Fo.size,List.length_nil];omega,rfl,rfl,fun sc s=>?_⟩;simp only[aO,h2,if_true];rfl
 |c::ls,t,i,hl,h,ha=>by
  simp only[List.all_cons,Bool.and_eq_true] at hl;obtain⟨y,n,rfl,h1,h2⟩:=pF hl.1 h;obtain⟨bl,g1,g2,g3,g4,g5,g6⟩:=fa ls n (i+1) hl.2 h1 (by simpa [Fo.size] using ha.2.2.2)
  have e:i+1+ls.length=i+(c::ls).length:=by simp only[List.length_cons];omega
  rw[e] at g2 g5 g6;refine⟨bl,g1,g2,by simp only[Fo.size,List.length_cons];omega,by simp only[Fo.cnt,g4,List.length_cons],?_,fun sc s=>?_⟩
  ·simp only[Fo.starts,Fo.size,List.length_cons,List.getD_cons_succ]
   have:i+1+0=i+1:=rfl;rw[this,g5];simp only[List.length_cons]
  ·have: ¬y.op=4:=by omega
   simp only[aO,if_neg this,Fo.size,Nat.add_zero];exact g6 sc s
theorem AM {p:List Nd} {x:Nd} {k n:Fo} {c:Int} {cs:List (Bool×Int)} {i:Nat} (ha:(Fo.cons x k n).At p i) (hv:(Fo.cons x k n).V ((false,c)::cs)) (hb:m6 x.op=true):
 ∃ (m:Nat) (c':Int) (bl:Fo),m<=4/\(c'=68\/c'=70)/\bl.V (List.replicate bl.cnt (false,c'))/\bl.At p (i+1+m+1)/\k.size=m+1+bl.size/\k.cnt=m+1/\(k.starts (i+1)).getD m 0=i+1+m/\∀ sc s,aO true k (i+1) sc s=aO false bl (i+1+m+1) sc s:=by
 obtain⟨_,hk,_⟩:=hv;unfold m6 at hb;simp only[decide_eq_true_eq] at hb
 rcases hb with e|e|e|e|e<;>rw[e] at hk
 ·obtain⟨bl,h⟩:=fa [110] k (i+1) rfl hk ha.2.2.1
  exact⟨1,_,bl,by decide,.inl rfl,h⟩
 ·obtain⟨bl,h⟩:=fa [115] k (i+1) rfl hk ha.2.2.1
  exact⟨1,_,bl,by decide,.inl rfl,h⟩
 ·obtain⟨bl,h⟩:=fa [115,105,105] k (i+1) rfl hk ha.2.2.1
  exact⟨3,_,bl,by decide,.inl rfl,h⟩
 ·obtain⟨bl,h⟩:=fa [110,105,105] k (i+1) rfl hk ha.2.2.1
  exact⟨3,_,bl,by decide,.inr rfl,h⟩
 ·obtain⟨bl,h⟩:=fa [110,110,105,105] k (i+1) rfl hk ha.2.2.1
  exact⟨4,_,bl,by decide,.inr rfl,h⟩
theorem Dm {c op:Int} (hc:c=68\/c=70) (h:dI c op=true):op=10\/op=11\/op=12\/op=13\/op=14\/op=15\/op=16\/op=17\/op=18\/op=19\/op=20\/op=21:=by
 unfold dI at h
 rcases hc with rfl|rfl
 ·simp at h;omega
 ·simp[cO] at h;omega
theorem jJ {p:List Nd} {x:Nd} {k n:Fo} {c:Int} {cs:List (Bool×Int)} {i:Nat} (hc:c=68\/c=70) (ha:(Fo.cons x k n).At p i) (hv:(Fo.cons x k n).V ((false,c)::cs)):i+1<p.length/\ew k=(aq (p.getD (i+1) dN).str).1:=by
 obtain⟨⟨hacc,_⟩,hk,_⟩:=hv
 have key:∃ sl r,fG (aD x.op x.kids).1=sl::r:=by
  rcases Dm hc hacc with e|e|e|e|e|e|e|e|e|e|e|e<;>rw[e]<;>exact⟨_,_,rfl⟩
 obtain⟨sl,r,e⟩:=key;rw[e] at hk;obtain⟨y,ky,n',rfl,_⟩:=F9 hk;have h1:=ha.2.2.1;exact⟨At.lt h1,by rw[At.get h1];rfl⟩
theorem ie {b r:Pth} (h:(bp b r).2=true):(bp b r).1.root=true:=by
 unfold bp at h |-;split
 ·simp_all
 ·split
  ·rfl
  ·split
   ·simp_all
   ·rfl
set_option maxRecDepth 100000
set_option maxHeartbeats 2000000
theorem ig {p:List Nd} {i:Nat} {sc q:Pth} (h:dB p i sc=(q,true)):q.root=true:=by
 unfold dB at h;split at h
 ·have e:=congrArg Prod.snd h
  have:=ie e;rw[h] at this;exact this
 ·cases h
theorem ou {q r:Pth} (h:bw q=(r,true)):r.root=true:=by
 unfold bw at h;split at h
 ·cases h
 ·cases h;rfl
structure AddOK (p:List Nd) (num:Int) (E:List Ent) (i:Nat) (sc:Pth) (E':List Ent) (q:Pth):Prop where
 join:dB p (i+1) sc=(q,true)
 new:ixP 0 E (aL q)=none
 room:E.length<1024
 up:∃ (ab:Pth) (c:Int),bw q=(ab,true)/\gX E ab=(c,true)/\E'=E++[dG (aL q) (p.getD i dN).op c num i]
def cr (p:List Nd) (num:Int) (E:List Ent) (i:Nat) (sc:Pth):List Ent×Int×Pth×Int:=
 if (dB p (i+1) sc).2=false then (E,0,z0,1)
 else if (ixP 0 E (aL (dB p (i+1) sc).1)).isSome=true then (E,0,z0,7)
 else if (bw (dB p (i+1) sc).1).2=false then (E,0,z0,6)
 else if (gX E (bw (dB p (i+1) sc).1).1).2=false then (E,0,z0,6)
 else if E.length<1024 then (E++[dG (aL (dB p (i+1) sc).1) (p.getD i dN).op (gX E (bw (dB p (i+1) sc).1).1).1 num i],E.length,(dB p (i+1) sc).1,0)
 else (E,0,z0,8)
abbrev lsL (nt num:Int) (p:List Nd) (Eo:List Nat) (fs rs:S) (E:List Ent):Hp:=[(0,some (ldB (E.length:Nat) nt num p Eo fs rs)),(1,some (oB E)),(2,some (pB E))]
abbrev F3 (id:Int) (q:Pth) (e:Int):V:=.tup [.s (.int .i64 id),.agg (ptC q),.s (.int .i64 e)]
theorem mj (e:Int):VLe (.tup [.s (.int .i64 0),.agg [.bool false,.int .i64 0,.slc none 0 (some 0)],.s (.int .i64 e)]) (F3 0 z0 e):=
 VLe.tup ⟨ULe.s (SLe.refl _),ULe.agg ⟨SLe.refl _,SLe.refl _,SLe.nil,trivial⟩,ULe.s (SLe.refl _),trivial⟩
theorem Et (nt num:Int) (p:List Nd) (Eo:List Nat) (hp:p.length<=2048) (hw:wfN p) (E:List Ent) (i:Nat) (hi:i+1<p.length) (sc:Pth):
 ∃ (E':List Ent) (id:Int) (q:Pth) (e:Int),cr p num E i sc=(E',id,q,e)/\(E'=E/\e≠0\/(e=0/\id=E.length/\AddOK p num E i sc E' q))/\∀ x y:Value,
   FC Tryz.prog 187 [.s (.ptr (some (0,0))),nI i,ptV sc] 6 (lsL nt num p Eo (.cst x) (.cst y) E) (F3 id q e) 6 (lsL nt num p Eo (.cst x) (.cst y) E'):=by
 have hj:=fun x y=>zT nt num p Eo hw (E.length:Nat) x y (i+1) hi sc
 rw[show ((i+1:Nat):Int)=(i:Int)+1 by omega] at hj
 cases hq:dB p (i+1) sc with|mk q ok
 rw[hq] at hj
 cases ok with
 |false=>
  refine⟨E,0,z0,1,by simp[cr,hq],.inl ⟨rfl,by decide⟩,?_⟩;intro x y;have hj:=hj x y;refine FC.walk (by kernel_rfl) Tryz.func187 rfl rfl ?_
  repeat'(first|exact y0|refine y1 ?_|refine y2 ?_ ?_|(refine y8 ?_ ?_<;>intro h<;>try(first|contradiction|exact y6))|(refine wC ?_;first|(refine wF 183 ?_;refine CallG.me [0,1,2,3,4,5] hj rfl rfl ⟨VLe.refl _,VLe.refl _,VLe.refl _,trivial⟩ ⟨⟨rfl,_,rfl,rfl,fun h=>h⟩,trivial⟩ rfl rfl rfl ?_))|refine y3 ?_|refine y7 ?_ ?_|refine y4 ?_|(refine y9 ?_ ?_<;>intro h)|exact y5|fail)
  exact⟨.inl rfl,_,[],mj _,EndOK.by rfl ⟨rfl,rfl,rfl,trivial⟩ rfl rfl rfl rfl⟩
 |true=>
 have hf:=lV q (ig hq)
 cases h1:ixP 0 E (aL q) with
 |some k=>
  refine⟨E,0,z0,7,by simp[cr,hq,h1],.inl ⟨rfl,by decide⟩,?_⟩;intro x y;have hj:=hj x y;refine FC.walk (by kernel_rfl) Tryz.func187 rfl rfl ?_
  repeat'(first|exact y0|refine y1 ?_|refine y2 ?_ ?_|(refine y8 ?_ ?_<;>intro h<;>try(first|contradiction|exact y6))|(refine wC ?_;first|(refine wF 183 ?_;refine CallG.me [0,1,2,3,4,5] hj rfl rfl ⟨VLe.refl _,VLe.refl _,VLe.refl _,trivial⟩ ⟨⟨rfl,_,rfl,rfl,fun h=>h⟩,trivial⟩ rfl rfl rfl ?_)|refine wF 50 (pu hf ?_))|refine RegX.pLk (some k) rfl rfl rfl rfl rfl rfl h1 rfl ?_|refine y3 ?_|refine y7 ?_ ?_|refine y4 ?_|(refine y9 ?_ ?_<;>intro h)|exact y5|fail)
  exact⟨.inl rfl,_,[],mj _,EndOK.by rfl ⟨rfl,rfl,rfl,trivial⟩ rfl rfl rfl rfl⟩
 |none=>
 have ha:=yn q
 cases h2:bw q with|mk ab ok
 rw[h2] at ha
 cases ok with
 |false=>
  refine⟨E,0,z0,6,by simp[cr,hq,h1,h2],.inl ⟨rfl,by decide⟩,?_⟩;intro x y;have hj:=hj x y;refine FC.walk (by kernel_rfl) Tryz.func187 rfl rfl ?_
  repeat'(first|exact y0|refine y1 ?_|refine y2 ?_ ?_|(refine y8 ?_ ?_<;>intro h<;>try(first|contradiction|exact y6))|(refine wC ?_;first|(refine wF 183 ?_;refine CallG.me [0,1,2,3,4,5] hj rfl rfl ⟨VLe.refl _,VLe.refl _,VLe.refl _,trivial⟩ ⟨⟨rfl,_,rfl,rfl,fun h=>h⟩,trivial⟩ rfl rfl rfl ?_)|refine wF 50 (pu hf ?_)|refine wF 96 (pu ha ?_))|refine RegX.pLk none rfl rfl rfl rfl rfl rfl h1 rfl ?_|refine y3 ?_|refine y7 ?_ ?_|refine y4 ?_|(refine y9 ?_ ?_<;>intro h)|exact y5|fail)
  exact⟨.inl rfl,_,[],mj _,EndOK.by rfl ⟨rfl,rfl,rfl,trivial⟩ rfl rfl rfl rfl⟩
 |true=>
 have hc:=fun x y=>AV nt num p Eo (E.length:Nat) x y E ab (ou h2)
 cases h3:gX E ab with|mk c ok
 rw[h3] at hc
 cases ok with
 |false=>
  refine⟨E,0,z0,6,by simp[cr,hq,h1,h2,h3],.inl ⟨rfl,by decide⟩,?_⟩;intro x y;have hj:=hj x y;have hc:=hc x y;refine FC.walk (by kernel_rfl) Tryz.func187 rfl rfl ?_
  repeat'(first|exact y0|refine y1 ?_|refine y2 ?_ ?_|(refine y8 ?_ ?_<;>intro h<;>try(first|contradiction|exact y6))|(refine wC ?_;first|(refine wF 183 ?_;refine CallG.me [0,1,2,3,4,5] hj rfl rfl ⟨VLe.refl _,VLe.refl _,VLe.refl _,trivial⟩ ⟨⟨rfl,_,rfl,rfl,fun h=>h⟩,trivial⟩ rfl rfl rfl ?_)|refine wF 50 (pu hf ?_)|refine wF 96 (pu ha ?_)|(refine wF 184 ?_;refine CallG.me [0,1,2,3,4,5] hc rfl rfl ⟨VLe.refl _,VLe.refl _,trivial⟩ ⟨⟨rfl,_,rfl,rfl,fun h=>h⟩,⟨rfl,_,rfl,rfl,fun h=>h⟩,⟨rfl,_,rfl,rfl,fun h=>h⟩,trivial⟩ rfl rfl rfl ?_))|refine RegX.pLk none rfl rfl rfl rfl rfl rfl h1 rfl ?_|refine y3 ?_|refine y7 ?_ ?_|refine y4 ?_|(refine y9 ?_ ?_<;>intro h)|exact y5|fail)
  exact⟨.inl rfl,_,[],mj _,EndOK.by rfl ⟨rfl,rfl,rfl,trivial⟩ rfl rfl rfl rfl⟩
 |true=>
 by_cases h4:E.length<1024
 ·refine⟨E++[dG (aL q) (p.getD i dN).op c num i],E.length,q,0,by simp[cr,hq,h1,h2,h3,h4],.inr ⟨rfl,rfl,hq,h1,h4,ab,c,h2,h3,rfl⟩,?_⟩
  intro x y;have hj:=hj x y;have hc:=hc x y;refine FC.walk (by kernel_rfl) Tryz.func187 rfl rfl ?_
  repeat'(first|exact y0|refine y1 ?_|refine y2 ?_ ?_|(refine y8 ?_ ?_<;>intro h<;>try(exact y6))|(refine wC ?_;first|(refine wF 183 ?_;refine CallG.me [0,1,2,3,4,5] hj rfl rfl ⟨VLe.refl _,VLe.refl _,VLe.refl _,trivial⟩ ⟨⟨rfl,_,rfl,rfl,fun h=>h⟩,trivial⟩ rfl rfl rfl ?_)|refine wF 50 (pu hf ?_)|refine wF 96 (pu ha ?_)|(refine wF 184 ?_;refine CallG.me [0,1,2,3,4,5] hc rfl rfl ⟨VLe.refl _,VLe.refl _,trivial⟩ ⟨⟨rfl,_,rfl,rfl,fun h=>h⟩,⟨rfl,_,rfl,rfl,fun h=>h⟩,⟨rfl,_,rfl,rfl,fun h=>h⟩,trivial⟩ rfl rfl rfl ?_))|refine RegX.pLk none rfl rfl rfl rfl rfl rfl h1 rfl ?_|refine RegX.oLen rfl rfl rfl rfl ?_|refine RegX.pNew (dG (aL q) (p.getD i dN).op c num i) rfl rfl rfl rfl h1 rfl rfl rfl rfl ?_|refine RegX.oNew (dG (aL q) (p.getD i dN).op c num i) rfl rfl rfl (VLe.refl _) rfl rfl rfl rfl ?_|refine y3 ?_|refine y7 ?_ ?_|refine y4 ?_|(refine y9 ?_ ?_<;>intro h)|exact y5|fail)
  all_goals try first
   |omega
   |exact aa (by omega) (by omega)
  have hlen:(((E++[dG (aL q) (p.getD i dN).op c num i]).length:Nat):Int)=(E.length:Int)+1:=by rw[List.length_append];rfl
  unfold lsL;rw[hlen];exact⟨.inl rfl,_,[],VLe.refl _,EndOK.by rfl ⟨rfl,rfl,rfl,trivial⟩ rfl rfl rfl rfl⟩
 ·refine⟨E,0,z0,8,by simp[cr,hq,h1,h2,h3,h4],.inl ⟨rfl,by decide⟩,?_⟩
  intro x y;have hj:=hj x y;have hc:=hc x y;refine FC.walk (by kernel_rfl) Tryz.func187 rfl rfl ?_
  repeat'(first|exact y0|refine y1 ?_|refine y2 ?_ ?_|(refine y8 ?_ ?_<;>intro h<;>try(exact y6))|(refine wC ?_;first|(refine wF 183 ?_;refine CallG.me [0,1,2,3,4,5] hj rfl rfl ⟨VLe.refl _,VLe.refl _,VLe.refl _,trivial⟩ ⟨⟨rfl,_,rfl,rfl,fun h=>h⟩,trivial⟩ rfl rfl rfl ?_)|refine wF 50 (pu hf ?_)|refine wF 96 (pu ha ?_)|(refine wF 184 ?_;refine CallG.me [0,1,2,3,4,5] hc rfl rfl ⟨VLe.refl _,VLe.refl _,trivial⟩ ⟨⟨rfl,_,rfl,rfl,fun h=>h⟩,⟨rfl,_,rfl,rfl,fun h=>h⟩,⟨rfl,_,rfl,rfl,fun h=>h⟩,trivial⟩ rfl rfl rfl ?_))|refine RegX.pLk none rfl rfl rfl rfl rfl rfl h1 rfl ?_|refine RegX.oLen rfl rfl rfl rfl ?_|refine y3 ?_|refine y7 ?_ ?_|refine y4 ?_|(refine y9 ?_ ?_<;>intro h)|exact y5|fail)
  exact⟨.inl rfl,_,[],mj _,EndOK.by rfl ⟨rfl,rfl,rfl,trivial⟩ rfl rfl rfl rfl⟩
theorem kN (nt:Int) (Eo:List Nat) (num:Int) (p:List Nd) (hp:p.length<=2048) (hw:wfN p) (E:List Ent) (i:Nat) (hi:i+1<p.length) (sc:Pth):
 ((cr p num E i sc).1=E/\(cr p num E i sc).2.2.2≠0\/((cr p num E i sc).2.2.2=0/\(cr p num E i sc).2.1=E.length/\AddOK p num E i sc (cr p num E i sc).1 (cr p num E i sc).2.2.1)):=by
 obtain⟨E',id,q,e,h0,h1,_⟩:=Et nt num p Eo hp hw E i hi sc;rw[h0];exact h1
theorem Es (nt num:Int) (p:List Nd) (Eo:List Nat) (hp:p.length<=2048) (hw:wfN p) (E:List Ent) (i:Nat) (hi:i+1<p.length) (sc:Pth) (fs rs:S) (hf:isJ fs=false) (hr:isJ rs=false):
 FC Tryz.prog 187 [.s (.ptr (some (0,0))),nI i,ptV sc] 6 (lsL nt num p Eo fs rs E) (F3 (cr p num E i sc).2.1 (cr p num E i sc).2.2.1 (cr p num E i sc).2.2.2) 6 (lsL nt num p Eo fs rs (cr p num E i sc).1):=by
 obtain⟨E',id,q,e,h0,h1,h2⟩:=Et nt num p Eo hp hw E i hi sc;rw[h0];refine⟨(h2 (.int .i64 0) (.int .i64 0)).1,?_⟩
 refine SC.cst (i:=0) (o:=8) (i':=0) (o':=8) (s:=fs) rfl rfl rfl rfl hf rfl rfl fun x hx=>?_
 refine SC.cst (i:=0) (o:=9) (i':=0) (o':=9) (s:=rs) rfl rfl rfl rfl hr rfl rfl fun y hy=>?_
 exact (h2 x y).2
theorem Ends.uniq {p:List Nd} {e n i:Nat} (h:Ends p e n i):∀ {e':Nat},Ends p e' n i->e=e':=by
 induction h with
 |done=>
  intro e' h';cases h';rfl
 |step h k hk r ih=>
  intro e' h'
  cases h' with
  |step _ k' hk' r'=>
   have:k=k':=by omega
   subst this;exact ih r'
structure EOK (p:List Nd) (E:List Nat):Prop where
 len:E.length=p.length
 on:∀ i,i<p.length->Ends p (E.getD i 0) 1 i
theorem EOK.get {p:List Nd} {E:List Nat} (h:EOK p E) {x:Nd} {k n:Fo} {i:Nat} (ha:(Fo.cons x k n).At p i):E.getD i 0=i+1+k.size:=(h.on i (At.lt ha)).uniq (At.ends1 ha)
set_option maxRecDepth 100000
set_option maxHeartbeats 1000000
abbrev nU (z:Int):V:=.s (.int .u64 z)
def h_ (sp base len:Int):Bool:=decide (4<=sp\/sp=2\/len=0\/1048576<len\/9223372036854775808<base)||decide (sp=3/\256<base+len)
def pD (w u:Int):Bool:=if w=1\/w=2\/w=4\/w=8 then decide (2<u) else true
theorem ac {z:Int} (h1:0<=z) (h2:z<18446744073709551616):IntKind.u64.wrap z=z:=by
 simp only[IntKind.wrap,IntKind.bits,IntKind.signed,Bool.false_and,Bool.false_eq_true,if_false];exact Int.emod_eq_of_lt h1 (by simpa using h2)
theorem j_ (w u:Int):FC Tryz.prog 175 [nU w,nU u] 0 [] (bV (pD w u)) 0 []:=by
 refine FC.walk (by kernel_rfl) Tryz.func175 rfl rfl ?_
 repeat'(first|exact y0|refine y1 ?_|refine y2 ?_ ?_|(refine y8 ?_ ?_<;>intro h<;>try exact y6)|refine Fin.bool (.inl rfl) rfl ?_|refine y3 ?_|refine y7 ?_ ?_|refine y4 ?_|(refine y9 ?_ ?_<;>intro h)|exact y5|fail)
 all_goals (unfold pD;first|(rw[if_pos (by omega)];simp;omega)|(rw[if_neg (by omega)]))
theorem rT (sp base len:Int) (h0:0<=base) (h1:0<=len):FC Tryz.prog 174 [nU sp,nU base,nU len] 0 [] (bV (h_ sp base len)) 0 []:=by
 refine FC.walk (by kernel_rfl) Tryz.func174 rfl rfl ?_
 repeat'(first|exact y0|refine y1 ?_|refine y2 ?_ ?_|(refine y8 ?_ ?_<;>intro h<;>try exact y6)|refine Fin.bool (.inl rfl) rfl ?_|refine y3 ?_|refine y7 ?_ ?_|refine y4 ?_|(refine y9 ?_ ?_<;>intro h)|exact y5|fail)
 all_goals first
  |exact ac (by omega) (by omega)
  |(unfold h_;simp;omega)
def ai (p:List Nd) (i:Nat):Int:=(p.getD i dN).int
def wfI (p:List Nd):Prop:=∀ x∈p,0<=x.int
theorem cH {p:List Nd} (h:wfI p) (i:Nat):0<=(p.getD i dN).int:=by
 rw[List.getD_eq_getElem?_getD]
 cases e:p[i]? with
 |none=>simp[dN]
 |some x=>exact h x (List.mem_of_getElem? e)
def rS (p:List Nd):Nat->Nat->Bool
 |_,0=>false
 |i,K+1=>decide (255<ai p i)||rS p (i+1) K
def bU (p:List Nd) (i:Nat):Bool:=
 if (p.getD i dN).op=12 then decide (5<ai p (i+2))||decide (65535<ai p (i+3))
 else if (p.getD i dN).op=14 then decide (7<ai p (i+2))||decide (1<ai p (i+3))||decide (15<ai p (i+4))
 else if (p.getD i dN).op=20 then decide (15<ai p (i+2))
 else if (p.getD i dN).op=15 then h_ (ai p (i+2)) (ai p (i+3)) (ai p (i+4))
 else if (p.getD i dN).op=16 then pD (ai p (i+2)) (ai p (i+3))
 else if (p.getD i dN).op=17 then pD (ai p (i+3)) (ai p (i+4))
 else if (p.getD i dN).op=18 then decide (ai p (i+2)=0)||decide (256<ai p (i+2))
 else if (p.getD i dN).op=19 then decide (8388608<ai p (i+1))
 else if (p.getD i dN).op=50 then decide (255<ai p (i+1))||rS p (i+3) (p.getD (i+2) dN).kids.toNat
 else if (p.getD i dN).op=51 then decide (64<ai p (i+1))
 else if (p.getD i dN).op=41 then decide (65535<ai p (i+2))
 else false
def gY (p:List Nd) (i:Nat):Prop:=i<p.length/\(((p.getD i dN).op=14\/(p.getD i dN).op=15\/(p.getD i dN).op=17)->i+4<p.length)/\(((p.getD i dN).op=12\/(p.getD i dN).op=16)->i+3<p.length)/\
 (((p.getD i dN).op=20\/(p.getD i dN).op=18\/(p.getD i dN).op=50\/(p.getD i dN).op=41)->i+2<p.length)/\(((p.getD i dN).op=19\/(p.getD i dN).op=51)->i+1<p.length)/\
 ((p.getD i dN).op=50->∃ K:Nat,(p.getD (i+2) dN).kids=(K:Int)/\i+3+K<=p.length)
theorem vv {p:List Nd}:∀ {K i:Nat},(∀ j,j<K-> ¬255<ai p (i+j))->rS p i K=false
 |0,_,_=>rfl
 |K+1,i,h=>by
  simp only[rS];rw[decide_eq_false (show ¬255<ai p i from h 0 (Nat.succ_pos _)),vv fun j hj=>by have:=h (j+1) (by omega);rwa [show i+(j+1)=i+1+j by omega] at this];rfl
theorem rR {p:List Nd}:∀ {K i j:Nat},j<K->255<ai p (i+j)->rS p i K=true
 |K+1,i,0,_,h=>by simp only[rS];rw[decide_eq_true (by simpa using h)];rfl
 |K+1,i,j+1,hj,h=>by
  simp only[rS];rw[rR (K:=K) (i:=i+1) (j:=j) (by omega) (by rwa [show i+1+j=i+(j+1) by omega]),Bool.or_true]
theorem DY {p:List Nd} {i:Nat} (h:(p.getD i dN).op=50):bU p i=(decide (255<ai p (i+1))||rS p (i+3) (p.getD (i+2) dN).kids.toNat):=by
 unfold bU
 repeat (first|rw[if_pos (by omega)]|rw[if_neg (by omega)])
theorem qn (p:List Nd) (hp:p.length<=2048) (hI:wfI p) (i:Nat) (hn:gY p i):FC Tryz.prog 116 [.s (.ptr (some (0,0))),nI i] 1 (anP p) (bV (bU p i)) 1 (anP p):=by
 obtain⟨g0,g4,g3,g2,g1,h2⟩:=hn;have hr:=rT (ai p (i+2)) (ai p (i+3)) (ai p (i+4)) (cH hI _) (cH hI _);have ha:=j_ (ai p (i+2)) (ai p (i+3));have hb:=j_ (ai p (i+3)) (ai p (i+4));unfold ai at hr ha hb;refine FC.walk (by kernel_rfl) Tryz.func116 rfl rfl ?_;by_cases h50:(p.getD i dN).op=50
 ·obtain⟨K,hK,hle⟩:=h2 h50
  repeat'(first|exact y0|refine y1 ?_|refine y2 ?_ ?_|(refine y8 ?_ ?_<;>intro h<;>try exact y6)|refine⟨.inl rfl,_,[],VLe.of_eq (congrArg bV ?_),EndOK.by rfl ⟨rfl,trivial⟩ rfl rfl rfl rfl⟩|refine y3 ?_|refine y7 ?_ ?_|refine y4 ?_|(refine y9 ?_ ?_<;>intro h)|exact y5|fail)
  all_goals try omega
  ·unfold bU ai
   repeat (first|rw[if_pos (by omega)]|rw[if_neg (by omega)])
   rw[decide_eq_true (by assumption)];rfl
  ·have hk:((i:Int)+3)+(p.getD (i+2) dN).kids=((i+3+K:Nat):Int):=by rw[hK];push_cast;rfl
   have hK2:i+3+K-(i+3)=K:=by omega
   refine RegX.chunkN 12 rfl rfl ?_ (RegX.eqv 169 (congrArg nI hk) rfl ?_)
   all_goals
    repeat'(first|exact y0|refine y1 ?_|refine y2 ?_ ?_|(refine y8 ?_ ?_<;>intro h<;>try exact y6)|refine y3 ?_|refine y7 ?_ ?_|refine y4 ?_|(refine y9 ?_ ?_<;>intro h)|exact y5|fail)
   all_goals try omega
   ·rw[hk];exact aa (by omega) (by omega)
   refine Ex.inv (σ:=Nat) (fun j=>[(172,nI j)]) (fun j=>anP p) (fun j=>j<=K/\∀ x,x<j-> ¬255<ai p (i+3+x)) (fun j=>K-j) 0 rfl (fun _=>rfl) ⟨Nat.zero_le _,fun x hx=>by omega⟩ ⟨VLe.refl _,trivial⟩ ⟨rfl,trivial⟩ ?_;rintro j ⟨j1,j2⟩
   repeat'(first|exact y0|refine y1 ?_|refine y2 ?_ ?_|(refine y8 ?_ ?_<;>intro h<;>try exact y6)|refine⟨.inl rfl,_,[],VLe.of_eq (congrArg bV ?_),EndOK.by rfl ⟨rfl,trivial⟩ rfl rfl rfl rfl⟩|refine LoopR.same (j+1) ⟨?_,?_⟩ ?_ rfl ⟨VLe.refl _,trivial⟩ ⟨rfl,trivial⟩ rfl rfl (by decide)|refine y3 ?_|refine y7 ?_ ?_|refine y4 ?_|(refine y9 ?_ ?_<;>intro h)|exact y5|fail)
   all_goals first
    |omega
    |(have q:j<i+3+K-(i+3):=Int.ofNat_lt.1 (by assumption)
      first
       |omega
       |(rw[DY h50,hK,Int.toNat_natCast,rR (j:=j) (by omega) (by assumption),Bool.or_true];done)
       |exact kG j2 (by assumption))
    |(have q: ¬j<i+3+K-(i+3):=fun e=>absurd (Int.ofNat_lt.2 e) (by assumption)
      rw[DY h50,hK,Int.toNat_natCast,vv (fun x hx=>j2 x (by omega)),Bool.or_false];exact (decide_eq_false (by assumption)).symm)
 ·clear h2
  repeat'(first|exact y0|refine y1 ?_|refine y2 ?_ ?_|(refine y8 ?_ ?_<;>intro h<;>try exact y6)|(refine wC ?_;first|refine wF 174 (pu hr ?_)|refine wF 175 (pu ha ?_)|refine wF 175 (pu hb ?_))|refine⟨.inl rfl,_,[],VLe.of_eq (congrArg bV ?_),EndOK.by rfl ⟨rfl,trivial⟩ rfl rfl rfl rfl⟩|refine y3 ?_|refine y7 ?_ ?_|refine y4 ?_|(refine y9 ?_ ?_<;>intro h)|exact y5|fail)
  all_goals first
   |omega
   |(unfold bU ai
     repeat (first|rw[if_pos (by omega)]|rw[if_neg (by omega)])
     first
      |done
      |rfl
      |(refine Eq.symm ?_;simp only[Bool.or_eq_true,decide_eq_true_eq,Nat.add_eq] at* <;>omega)
      |(refine Eq.symm ?_;simp only[Bool.or_eq_false_iff,decide_eq_false_iff_not,Nat.add_eq] at* <;>omega))
end Go.Proofs.YtegjgpldfgjoiaaGreatDoor
