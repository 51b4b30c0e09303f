import Derived.Test.YtegjgpldfgjoiaaGreatDoorCnB16
import Derived.Test.YtegjgpldfgjoiaaGreatDoorCnB15
set_option linter.unusedSimpArgs false
set_option linter.unusedVariables false
namespace Go.Proofs.YtegjgpldfgjoiaaGreatDoor
open Go Ab
set_option maxRecDepth 100000
set_option maxHeartbeats 2000000
section
variable {P:Program} {b:Nat} {env:List V} {n:Nat} {L:Hp} {R:Post}
theorem Ex.cel {c:Code} (j o:Nat) {s s':S} {bl:Bl} (hl:lk L j=some bl) (ho:bl.cells[o]? =some s) (hle:SLe s s') {L':Hp} (hL:put L j (some {bl with cells:=bl.cells.set o s'})=L') (k:Ex P b c env n L' R):Ex P b c env n L R:=by
 subst hL;refine Ex.subF (fun i bl' hi=>?_) k;rw[ax] at hi;split at hi
 ·rename_i e;subst e;cases hi
  refine⟨bl,hl,rfl,fun φ w c h=>?_⟩;obtain⟨pre,xs,rest,fr,h1,hp,h2,h3,h4,h5⟩:=h;exact⟨pre,xs,rest,fr,h1,hp,gD h2 (fun x hx=>hle _ _ (kM h2 ho hx)),h3,h4,h5⟩
 ·exact⟨bl',hi,rfl,fun _ _ _ h=>h⟩
theorem Ex.cel16 {ops:Array Oper} {d:Bool} (j o:Nat) {s s':S} {bl:Bl} (hl:lk L j=some bl) (ho:bl.cells[o]? =some s) (hle:SLe s s') {L':Hp} (hL:put L j (some {bl with cells:=bl.cells.set o s'})=L') (k:Ex P b (.region 16 ops d) env n L' R):Ex P b (.region 16 ops d) env n L R:=Ex.cel j o hl ho hle hL k
theorem Ex.fzC16 {ops:Array Oper} {d:Bool} (j o:Nat) (get:Nat->List S) (sz:Nat) {s:S} {i N:Nat} {bl blj:Bl} (hlj:lk L j=some blj) (hij:i≠j) (hs:blj.cells[o]? =some s) (ht:ct (.s s)=some (i,N)) (hl:lk L i=some bl) (hro:bl.ro=false) (hk:bl.kind=none)
 (hg:∀ k,k<N->(get k).length=sz) (hc:∀ k j x,k<N->(get k)[j]? =some x->bl.cells[k*sz+j]? =some x/\aY x=true)
 {L':Hp} (hL:put (put L i none) j (some {blj with cells:=blj.cells.set o (.frz get sz N)})=L') (k:Ex P b (.region 16 ops d) env n L' R):Ex P b (.region 16 ops d) env n L R:=Ex.fzC j o get sz hlj hij hs ht hl hro hk hg hc hL k
end
structure Fd where
 node:Int
 scope:By
 units:List Int
 bits:Int
def Aa (l:List Int):S:=.frz (fun k=>[.int .i64 (l.getD k 0)]) 1 l.length
def fdC (d:Fd):List S:=[.int .i64 d.node,.str d.scope,Aa d.units,.int .i64 d.bits]
abbrev fdB (c:Nat) (fs:List Fd):Option Bl:=opB 129 (c+1) 4 (fs.flatMap fdC)
abbrev unB (c:Nat) (l:List Int):Option Bl:=opB 3 (c+1) 1 (l.map fun z=>S.int .i64 z)
abbrev eL (nt num:Int) (p:List Nd) (Eo:List Nat) (E:List Ent) (fs:List Fd):Hp:=[(0,some (ldB (E.length:Nat) nt num p Eo (.row 4 5 fs.length) (.slc none 0 (some 0)))),(1,some (oB E)),(2,some (pB E)),(4,fdB 4 fs)]
abbrev eL' (nt num:Int) (p:List Nd) (Eo:List Nat) (E:List Ent) (fs:List Fd):Hp:=[(0,some (ldB (E.length:Nat) nt num p Eo (.row 6 7 fs.length) (.slc none 0 (some 0)))),(1,some (oB E)),(2,some (pB E)),(4,none),(6,fdB 6 fs)]
theorem yw {nt num:Int} {p:List Nd} {Eo:List Nat} {E:List Ent} {fs:List Fd}:okH 8 (eL' nt num p Eo E fs)=true:=by
 unfold eL' fdB;generalize List.flatMap fdC fs=cg
 cases cg<;>rfl
section
variable {P:Program} {fn:Func} {env:List V} {nt num:Int} {p:List Nd} {Eo:List Nat} {E:List Ent} {z z':Int} {e:Exit} {M:Hp} {m:Nat} {fs fs':List Fd}
theorem Fin.fd (c:Nat) (hx:e=.ret\/e=.normal) (h0:lk M 0=some (ldB (E.length:Nat) nt num p Eo (.row c (c+1) fs.length) (.slc none 0 (some 0)))) (h1:lk M 1=some (oB E)) (h2:lk M 2=some (pB E)) (h4:lk M c=fdB c fs)
 (hr:eJ P fn env M=some (.s (.int .i64 z'))) (hn:bY (List.range 6++[c,c+1])=true) (hz:z'=z) (hf:fs=fs'):Fin P fn 6 (.s (.int .i64 z)) 8 (eL' nt num p Eo E fs') e env m M:=by
 subst hz;subst hf;exact⟨hx,_,[c,c+1],VLe.refl _,EndOK.by hr ⟨h0,h1,h2,MemP.op h4 trivial⟩ rfl yw rfl hn⟩
theorem Fin.f4 (hx:e=.ret\/e=.normal) (h0:lk M 0=some (ldB (E.length:Nat) nt num p Eo (.row 4 5 fs.length) (.slc none 0 (some 0)))) (h1:lk M 1=some (oB E)) (h2:lk M 2=some (pB E)) (h4:lk M 4=fdB 4 fs)
 (hr:eJ P fn env M=some (.s (.int .i64 z'))) (hz:z'=z) (hf:fs=fs'):Fin P fn 6 (.s (.int .i64 z)) 8 (eL' nt num p Eo E fs') e env m M:=by
 subst hz;subst hf;refine⟨hx,_,[4,5],VLe.refl _,EndOK.move hr ⟨h0,h1,h2,MemP.op h4 trivial⟩ rfl yw rfl ?_ ?_⟩
 ·unfold eL' fdB
  generalize List.flatMap fdC fs=cg
  cases cg<;>rfl
 ·unfold eL' fdB
  generalize List.flatMap fdC fs=cg
  cases cg<;>rfl
end
def Gl (x y:Ent):Prop:=x.path=y.path/\x.op=y.op/\x.par=y.par/\x.tab=y.tab/\x.node=y.node
inductive Gro (p:List Nd) (num:Int) (m:Nat):List Ent->List Ent->Prop where
 |refl (E:List Ent):Gro p num m E E
 |add {E E1 E2:List Ent} {i:Nat} {sc q:Pth} (hi:i+1<p.length) (h:AddOK p num E i sc E1 q) (k:Gro p num m E1 E2):Gro p num m E E2
 |spec {E E2:List Ent} {j:Nat} {y:Ent} (hm:m<=j) (hj:j<E.length) (hs:Gl y (E.getD j eZ)) (k:Gro p num m (E.set j y) E2):Gro p num m E E2
theorem Gro.trans {p:List Nd} {num:Int} {m:Nat} {A B C:List Ent} (h:Gro p num m A B) (k:Gro p num m B C):Gro p num m A C:=by
 induction h with
 |refl=>exact k
 |add hi h _ ih=>exact .add hi h (ih k)
 |spec hm hj hs _ ih=>exact .spec hm hj hs (ih k)
theorem AddOK.len {p:List Nd} {num:Int} {E E':List Ent} {i:Nat} {sc q:Pth} (h:AddOK p num E i sc E' q):E'.length=E.length+1:=by
 obtain⟨ab,c,_,_,rfl⟩:=h.up;rw[List.length_append];rfl
theorem Gro.len {p:List Nd} {num:Int} {m:Nat} {A B:List Ent} (h:Gro p num m A B):A.length<=B.length:=by
 induction h with
 |refl=>exact Nat.le_refl _
 |add hi h _ ih=>have:=h.len;omega
 |spec hm hj hs _ ih=>rw[List.length_set] at ih;exact ih
theorem Gro.small {p:List Nd} {num:Int} {m:Nat} {A B:List Ent} (h:Gro p num m A B) (hA:A.length<=1024):B.length<=1024:=by
 induction h with
 |refl=>exact hA
 |add hi h _ ih=>have:=h.len;have:=h.room;exact ih (by omega)
 |spec hm hj hs _ ih=>exact ih (by rw[List.length_set];exact hA)
theorem Ej {op:Int} (h:dI 70 op=true):op=18\/op=19:=by
 unfold dI at h;simp[cO] at h;omega
theorem D_ {p:List Nd} {i:Nat} (h:bU p i=false) (ho:(p.getD i dN).op=18):ai p (i+2)<=256:=by
 unfold bU at h;rw[ho] at h;simp at h;exact h.2
theorem DZ {p:List Nd} {i:Nat} (h:bU p i=false) (ho:(p.getD i dN).op=19):ai p (i+1)<=8388608:=by
 unfold bU at h;rw[ho] at h;simp at h;exact h
def spE (x:Ent) (bit len wid upd:Int):Ent:={x with sp:=0,ba:=0,ln:=0,bit:=bit,len:=len,wid:=wid,upd:=upd,idx:= -1,dat:= -1}
theorem EU (E:List Ent) (j:Nat) (a b c d:Int):pB (E.set j (spE (E.getD j eZ) a b c d))=pB E:=by
 unfold pB;rw[List.length_set,pf E 0 j _ (fun x hx=>by rw[List.getD_eq_getElem?_getD,hx];rfl)]
def im (p:List Nd) (num:Int) (sc:Pth) (wid upd:Int):Fo->Nat->List Ent->List Int->Int->List Ent×List Int×Int×Int
 | .nil,_,E,us,bits=>(E,us,bits,0)
 | .cons x k n,c,E,us,bits=>
   if x.op=19 then im p num sc wid upd n (c+1+k.size) E us (bits+ai p (c+1))
   else if (cr p num E c sc).2.2.2≠0 then ((cr p num E c sc).1,us,bits,(cr p num E c sc).2.2.2)
   else im p num sc wid upd n (c+1+k.size) ((cr p num E c sc).1.set E.length (spE ((cr p num E c sc).1.getD E.length eZ) bits (ai p (c+2)) wid upd)) (us++[(E.length:Int)]) (bits+ai p (c+2))
def rG (i:Nat) (sc:Pth) (fs:List Fd) (R:List Ent×List Int×Int×Int):List Fd:=if R.2.2.2=0 then fs++[⟨i,aL sc,R.2.1,R.2.2.1⟩] else fs
theorem o_:∀ fs:List Fd,(fs.flatMap fdC).length=fs.length*4
 |[]=>rfl
 |x::G=>by rw[List.flatMap_cons,List.length_append,o_ G];simp only[List.length_cons];simp[fdC];omega
theorem kV (l:List Int):∀ (k j:Nat) (x:S),k<l.length->([S.int .i64 (l.getD k 0)])[j]? =some x->(l.map fun z=>S.int .i64 z)[k*1+j]? =some x/\aY x=true:=by
 intro k j x hk hx
 cases j with
 |succ j=>simp at hx
 |zero=>
  simp only[List.getElem?_cons_zero,Option.some.injEq] at hx;subst hx;rw[Nat.mul_one,Nat.add_zero,List.getElem?_map,List.getElem?_eq_getElem hk,List.getD_eq_getElem?_getD,List.getElem?_eq_getElem hk];exact⟨rfl,rfl⟩
theorem AJ (nt num:Int) (p:List Nd) (Eo:List Nat) (hp:p.length<=2048) (hw:wfN p) (hI:wfI p) (hO:∀ j,j<p.length->bU p j=false) (hNA:∀ j,j<p.length->gY p j) (hE:EOK p Eo) (E:List Ent) (fs:List Fd) (hfs:fs.length<=100000)
 (i b:Nat) (x:Nd) (kf:Fo) (ha:(Fo.cons x kf .nil).At p b) (hv:kf.V (List.replicate kf.cnt (false,70))) (hb:2<=b) (n1:ai p (b-2)<=1000) (n2:ai p (b-1)<=1000) (sc:Pth) (hsc:sc.root=true) (R:List Ent×List Int×Int×Int) (hR:im p num sc (ai p (b-2)) (ai p (b-1)) kf (b+1) E [] 0=R):
   FC Tryz.prog 186 [.s (.ptr (some (0,0))),nI i,nI b,ptV sc] 6 (eL nt num p Eo E fs) (.s (.int .i64 R.2.2.2)) 8 (eL' nt num p Eo R.1 (rG i sc fs R)):=by
 have hf:=lV sc hsc;have hbl:=At.lt ha;have heb:=hE.get ha;have hel:=hE.len;have hsz:=At.size_le (Nat.le_of_lt hbl) ha;simp only[Fo.size] at hsz
 obtain⟨s,rt⟩:∃ s,s=aL sc:=⟨_,rfl⟩
 unfold rG;rw[<-rt] at hf |-;refine FC.walk (by kernel_rfl) Tryz.func186 rfl rfl ?_
 repeat'(first|exact y0|refine y1 ?_|refine y2 ?_ ?_|(refine y8 ?_ ?_<;>intro h<;>try exact y6)|(refine wC ?_;first|refine wF 50 (pu hf ?_))|refine y3 ?_|refine y7 ?_ ?_|refine y4 ?_|(refine y9 ?_ ?_<;>intro h)|exact y5|fail)
 refine Ex.cel 7 2 (s':=.row 8 9 0) rfl rfl SLe.nilrow rfl (Ex.upN (n':=10) (by decide) ?_)
 refine Ex.inv (σ:=Fo×Nat×List Ent×List Int×Int) (fun q=>[(10,nI q.2.1)]) (fun q=>[(0,some (ldB (q.2.2.1.length:Nat) nt num p Eo (.row 4 5 fs.length) (.slc none 0 (some 0)))),(1,some (oB q.2.2.1)),(2,some (pB q.2.2.1)),(4,fdB 4 fs),(6,some {cells:=ptC sc,ty:=99}),(7,some {cells:=[.int .i64 (i:Int),.str s,.row 8 9 q.2.2.2.1.length,.int .i64 q.2.2.2.2],ty:=129}),(8,unB 8 q.2.2.2.1)])
  (fun q=>q.1.At p q.2.1/\q.1.V (List.replicate q.1.cnt (false,70))/\(b+1<=q.2.1/\q.2.1+q.1.size=b+1+kf.size)/\q.2.2.2.1.length+q.1.size<=2048/\0<=q.2.2.2.2/\q.2.2.2.2+8388608*q.1.size<=20000000000/\im p num sc (ai p (b-2)) (ai p (b-1)) q.1 q.2.1 q.2.2.1 q.2.2.2.1 q.2.2.2.2=R) (fun q=>q.1.size) (kf,b+1,E,[],0) rfl (fun _=>rfl) ?_ ?_ ?_ ?_
 ·refine⟨ha.2.2.1,hv,⟨by simp only;omega,by simp only⟩,by simp only[List.length_nil];omega,by simp only;omega,by simp only;omega,hR⟩
 ·exact⟨VLe.of_eq (congrArg nI (by push_cast;rfl)),trivial⟩
 ·exact⟨rfl,rfl,rfl,SubP.op rfl ⟨rfl,rfl,SubP.op rfl trivial⟩⟩
 rintro⟨t,cur,E1,us,bits⟩ ⟨t1,t2,⟨t3,t4⟩,t5,t6,t7,t8⟩;simp only at t1 t2 t3 t4 t5 t6 t7 t8 |-
 cases t with
 |nil=>
  simp only[im] at t8;subst t8;simp only[Fo.size] at t4;simp only[if_true]
  have hsz4:(Tryz.prog.types[129]).size=4:=by kernel_rfl
  have hby4:(Tryz.prog.types[129]).bytes=56:=by kernel_rfl
  have hfl:=o_ fs
  cases us with
  |nil=>
   repeat'(first|refine Ex.cel16 7 2 (s':=Aa []) rfl rfl SLe.row0 rfl ?_|exact y0|refine y1 ?_|refine y2 ?_ ?_|(refine y8 ?_ ?_<;>intro h<;>try exact y6)|refine RegX.apr (i:=4) (g:=5) (m:=fs.length) (w:=4) (cs:=fs.flatMap fdC) (foot:=[10]) (k:=1) (add:=fdC ⟨i,s,[],bits⟩) rfl rfl (by rw[o_]) rfl rfl rfl rfl rfl rfl rfl hsz4 (by decide) rfl ⟨Nat.le_refl _,rfl⟩ (by decide) (by simp[fdC]) rfl (by rw[hby4];omega) (by omega) rfl ?_|refine y3 ?_|refine y7 ?_ ?_|refine y4 ?_|(refine y9 ?_ ?_<;>intro h)|exact y5|fail)
   refine Fin.fd 11 (.inl rfl) ?_ rfl rfl ?_ rfl rfl rfl rfl
   ·rw[List.length_append];rfl
   ·show opB _ _ _ _=opB _ _ _ _
    rw[List.flatMap_append];rfl
  |cons u us=>
   repeat'(first|refine Ex.fzC16 7 2 (fun k=>[.int .i64 ((u::us).getD k 0)]) 1 rfl (by decide) rfl rfl rfl rfl rfl (fun _ _=>rfl) (kV _) rfl ?_|exact y0|refine y1 ?_|refine y2 ?_ ?_|(refine y8 ?_ ?_<;>intro h<;>try exact y6)|refine RegX.apr (i:=4) (g:=5) (m:=fs.length) (w:=4) (cs:=fs.flatMap fdC) (foot:=[10]) (k:=1) (add:=fdC ⟨i,s,u::us,bits⟩) rfl rfl (by rw[o_]) rfl rfl rfl rfl rfl rfl rfl hsz4 (by decide) rfl ⟨Nat.le_refl _,rfl⟩ (by decide) (by simp[fdC]) rfl (by rw[hby4];omega) (by omega) rfl ?_|refine y3 ?_|refine y7 ?_ ?_|refine y4 ?_|(refine y9 ?_ ?_<;>intro h)|exact y5|fail)
   refine Fin.fd 11 (.inl rfl) ?_ rfl rfl ?_ rfl rfl rfl rfl
   ·rw[List.length_append];rfl
   ·show opB _ _ _ _=opB _ _ _ _
    rw[List.flatMap_append];rfl
 |cons y k n=>
  simp only[Fo.size] at t4 t5 t7;have hcl:=At.lt t1;have hec:=hE.get t1;have hx:=At.get t1;have hac:=t2.1.1
  have hbd:∀ j,j<p.length->0<=(p.getD j dN).int:=fun j hj=>cH hI j
  simp only[im] at t8;by_cases h19:y.op=19
  ·rw[if_pos h19] at t8
   have hop:(p.getD cur dN).op=19:=by rw[hx];exact h19
   have ho:=hO cur hcl;have hn:=(hNA cur hcl).2.2.2.2.1 (.inl hop);have hb1:=DZ ho hop;have hb0:0<=ai p (cur+1):=cH hI _;unfold ai at hb0 hb1 t8;have wv1:IntKind.i64.wrap (p.getD (cur+1) dN).int=(p.getD (cur+1) dN).int:=aa (by omega) (by omega);have wv2:IntKind.i64.wrap (bits+(p.getD (cur+1) dN).int)=bits+(p.getD (cur+1) dN).int:=aa (by omega) (by omega)
   repeat'(first|exact y0|refine y1 ?_|refine y2 ?_ ?_|(refine y8 ?_ ?_<;>intro h<;>try exact y6)|exact wv1|exact wv2|refine y3 ?_|refine y7 ?_ ?_|refine y4 ?_|(refine y9 ?_ ?_<;>intro h)|exact y5|fail)
   all_goals try first
    |omega
    |exact wv1
    |exact wv2
   refine LoopR.same (n,cur+1+k.size,E1,us,bits+(p.getD (cur+1) dN).int) ⟨t1.2.2.2,t2.2.2,⟨by simp only;omega,by simp only;omega⟩,by simp only;omega,by simp only;omega,by simp only;omega,t8⟩ (by simp only[Fo.size];omega) rfl ⟨VLe.of_eq (congrArg nI (by rw[hec])),trivial⟩ ⟨rfl,rfl,rfl,SubP.op rfl ⟨rfl,rfl,SubP.op rfl trivial⟩⟩ rfl ?_ (by decide);unfold fdB unB;generalize List.flatMap fdC fs=cg;generalize List.map _ us=cu
   cases cg<;>cases cu<;>rfl
  ·rw[if_neg h19] at t8
   have h18:y.op=18:=by rcases Ej hac with h|h;exact h;exact absurd h h19
   have hop:(p.getD cur dN).op=18:=by rw[hx];exact h18
   have ho:=hO cur hcl;have hn:=(hNA cur hcl).2.2.2.1 (.inr (.inl hop));have hb1:=D_ ho hop;have hb0:0<=ai p (cur+2):=cH hI _;have w0:0<=ai p (b-2):=cH hI _;have w1:0<=ai p (b-1):=cH hI _;have had:=Es nt num p Eo hp hw E1 cur (by omega) sc (.row 4 5 fs.length) (.slc none 0 (some 0)) rfl rfl;have hao:=kN nt Eo num p hp hw E1 cur (by omega) sc;generalize cr p num E1 cur sc=A at had hao t8;obtain⟨E2,id,q,e⟩:=A;simp only at had hao t8;unfold ai at hb0 hb1 t8 w0 w1 n1 n2;have wv1:IntKind.i64.wrap (p.getD (cur+2) dN).int=(p.getD (cur+2) dN).int:=aa (by omega) (by omega);have wv2:IntKind.i64.wrap (bits+(p.getD (cur+2) dN).int)=bits+(p.getD (cur+2) dN).int:=aa (by omega) (by omega);have wv3:IntKind.i64.wrap (p.getD (b-2) dN).int=(p.getD (b-2) dN).int:=aa (by omega) (by omega);have wv4:IntKind.i64.wrap (p.getD (b-1) dN).int=(p.getD (b-1) dN).int:=aa (by omega) (by omega);have e97:nI ((b:Int)-2)=nI ((b-2:Nat):Int):=congrArg nI (by omega);have e107:nI ((b:Int)-1)=nI ((b-1:Nat):Int):=congrArg nI (by omega);by_cases he:e=0
   ·rcases hao with ⟨_,h⟩|⟨_,rfl,hA⟩
    ·exact absurd he h
    subst he;have hlA:=hA.len;rw[if_neg (by simp)] at t8
    have hsz1:(Tryz.prog.types[3]).size=1:=by kernel_rfl
    have hby1:(Tryz.prog.types[3]).bytes=8:=by kernel_rfl
    repeat'(first|exact y0|refine y1 ?_|refine y2 ?_ ?_|(refine y8 ?_ ?_<;>intro h<;>try exact y6)|(refine wC ?_;first|(refine wF 187 ?_;refine CallG.me [0,1,2,3,4,5] had rfl rfl ⟨VLe.refl _,VLe.refl _,VLe.refl _,trivial⟩ ⟨⟨rfl,_,rfl,rfl,fun h=>h⟩,⟨rfl,_,rfl,rfl,fun h=>h⟩,⟨rfl,_,rfl,rfl,fun h=>h⟩,trivial⟩ rfl rfl rfl ?_))|refine RegX.oLk E1.length rfl rfl rfl (by omega) rfl rfl rfl rfl rfl ?_|refine RegX.chunkN 9 rfl rfl ?_ (RegX.eqv 97 e97 rfl ?_)|refine RegX.chunkN 10 rfl rfl ?_ (RegX.eqv 107 e107 rfl ?_)|refine RegX.oUpd E1.length (spE (E2.getD E1.length eZ) bits (p.getD (cur+2) dN).int (p.getD (b-2) dN).int (p.getD (b-1) dN).int) rfl rfl rfl (by omega) (VLe.refl _) rfl rfl rfl rfl ?_|refine RegX.apr (i:=8) (g:=9) (m:=us.length) (w:=1) (cs:=us.map fun z=>S.int .i64 z) (foot:=[12]) (k:=1) (add:=[.int .i64 (E1.length:Int)]) rfl rfl (by simp) rfl rfl rfl rfl rfl rfl rfl hsz1 (by decide) rfl ⟨Nat.le_refl _,rfl⟩ (by decide) (by simp) rfl (by rw[hby1];omega) (by omega) rfl ?_|refine y3 ?_|refine y7 ?_ ?_|refine y4 ?_|(refine y9 ?_ ?_<;>intro h)|exact y5|fail)
    all_goals try first
     |omega
     |exact wv1
     |exact wv2
     |exact wv3
     |exact wv4
    have hps:=EU E2 E1.length bits (p.getD (cur+2) dN).int (p.getD (b-2) dN).int (p.getD (b-1) dN).int;have hls:= @List.length_set _ E2 E1.length (spE (E2.getD E1.length eZ) bits (p.getD (cur+2) dN).int (p.getD (b-2) dN).int (p.getD (b-1) dN).int);refine LoopR.move (n,cur+1+k.size,E2.set E1.length (spE (E2.getD E1.length eZ) bits (p.getD (cur+2) dN).int (p.getD (b-2) dN).int (p.getD (b-1) dN).int),us++[(E1.length:Int)],bits+(p.getD (cur+2) dN).int) ⟨t1.2.2.2,t2.2.2,⟨by simp only;omega,by simp only;omega⟩,by simp only[List.length_append,List.length_singleton];omega,by simp only;omega,by simp only;omega,t8⟩ (by simp only[Fo.size];omega) [0,1,2,3,4,5,6,7,13,14] rfl ?_ ?_ ?_
    ·repeat' (first|exact VLe.refl _|exact VLe.any _|exact True.intro|exact VLe.of_eq (congrArg nI (by rw[hec]))|refine⟨?_,?_⟩)
    ·refine⟨?_,rfl,?_,MemP.op rfl ⟨rfl,?_,MemP.op ?_ trivial⟩⟩
     ·simp only[hls];rfl
     ·simp only[hps];rfl
     ·simp only[List.length_append];rfl
     ·simp only[List.map_append];rfl
    ·unfold fdB unB
     generalize List.flatMap fdC fs=cg;generalize List.map _ (us++[(E1.length:Int)])=cu
     cases cg<;>cases cu<;>rfl
   ·rcases hao with ⟨rfl,_⟩|⟨h,_⟩
    ·rw[if_pos he] at t8
     subst t8
     repeat'(first|exact y0|refine y1 ?_|refine y2 ?_ ?_|(refine y8 ?_ ?_<;>intro h<;>try(exact y6))|(refine wC ?_;first|(refine wF 187 ?_;refine CallG.me [0,1,2,3,4,5] had rfl rfl ⟨VLe.refl _,VLe.refl _,VLe.refl _,trivial⟩ ⟨⟨rfl,_,rfl,rfl,fun h=>h⟩,⟨rfl,_,rfl,rfl,fun h=>h⟩,⟨rfl,_,rfl,rfl,fun h=>h⟩,trivial⟩ rfl rfl rfl ?_))|refine y3 ?_|refine y7 ?_ ?_|refine y4 ?_|(refine y9 ?_ ?_<;>intro h)|exact y5|fail)
     exact Fin.f4 (.inl rfl) rfl rfl rfl rfl rfl rfl (if_neg he).symm
    ·exact absurd h he
set_option maxRecDepth 100000
set_option maxHeartbeats 1000000
def dt (p:List Nd) (F:List (By×Nat)) (op:Int):List Pth->Int
 |[]=> -1
 |c::t=>match lkF F (aL c) with|some i=>if (p.getD i dN).op=op then (i:Int) else-1|none=>dt p F op t
theorem lg {p:List Nd} {F:List (By×Nat)} {op:Int} {c:Pth} {t:List Pth} {i:Nat} (h:lkF F (aL c)=some i):dt p F op (c::t)=if (p.getD i dN).op=op then (i:Int) else-1:=by simp only[dt,h]
theorem lh {p:List Nd} {F:List (By×Nat)} {op:Int} {c:Pth} {t:List Pth} (h:lkF F (aL c)=none):dt p F op (c::t)=dt p F op t:=by simp only[dt,h]
theorem oN:∀ {F:List (By×Nat)} {k:By} {i:Nat},lkF F k=some i->(k,i)∈F
 |x::t,k,i,h=>by
  simp only[lkF] at h;split at h
  ·rename_i e;cases h;rw[<-e];exact .head _
  ·exact .tail _ (oN h)
theorem iq (bs:List By) (s0:By):∀ (k:Nat),∀ c∈eg bs s0 k,c.root=true
 |0,c,h=>by simp[eg] at h;rw[h]
 |k+1,c,h=>by
  unfold eg at h;split at h
  ·exact iq bs s0 k c h
  ·rcases List.mem_cons.1 h with rfl|h
   ·rfl
   ·exact iq bs s0 k c h
theorem ip {b r:Pth}:∀ c∈bK b r,c.root=true:=by
 intro c h;unfold bK at h;split at h
 ·simp at h
 ·split at h
  ·split at h
   ·rename_i hj;simp at h;rw[h];exact ie hj
   ·simp at h
  ·exact iq _ _ _ c h
theorem jO (b r:Pth):(bK b r).length<=b.segs.length+1:=by
 unfold bK;split
 ·simp
 ·split
  ·split<;>simp
  ·exact jP _ _ _
abbrev anR (p:List Nd) (F:List (By×Nat)):Hp:=[(0,some {cells:=[.frz (fun k=>ndC (p.getD k dN)) 4 p.length,.unk,.unk,.map (some 1)],ty:=186,more:=true,ro:=true}),(1,some {a_ F with ro:=true})]
theorem jq (p:List Nd) (hp:p.length<=2048) (F:List (By×Nat)) (hF:∀ x∈F,x.2<p.length) (sc nm:Pth) (hs:sc.segs.length<=1000000) (op:Int):
 FC Tryz.prog 177 [.s (.ptr (some (0,0))),ptV sc,ptV nm,nI op] 2 (anR p F) (nI (dt p F op (bK sc nm))) 2 (anR p F):=by
 have hcd:=tI sc nm;have hroot:= @ip sc nm;have hcl:=jO sc nm
 have hzr:∀ w,(zeroValue 3).run Tryz.prog w=.ok (.int .i64 0) w:=fun w=>by rw[Tryz.zeroValue3]
 generalize bK sc nm=cs at*;refine FC.walk (by kernel_rfl) Tryz.func177 rfl rfl ?_
 repeat'(first|exact y0|refine y1 ?_|refine y2 ?_ ?_|(refine y8 ?_ ?_<;>intro h<;>try exact y6)|(refine wC ?_;first|refine wF 49 (pu hcd ?_))|refine y3 ?_|refine y7 ?_ ?_|refine y4 ?_|(refine y9 ?_ ?_<;>intro h)|exact y5|fail)
 refine Ex.inv (σ:=Nat) (fun j=>[(17,nI j)]) (fun j=>anR p F) (fun j=>j<=cs.length/\dt p F op (cs.drop j)=dt p F op cs) (fun j=>cs.length-j) 0 rfl (fun _=>rfl) ⟨Nat.zero_le _,rfl⟩ ⟨VLe.refl _,trivial⟩ ⟨rfl,rfl,trivial⟩ ?_;rintro j ⟨j1,j2⟩;by_cases hj:j<cs.length
 ·rw[List.drop_eq_getElem_cons hj] at j2
  have hg:cs.getD j z0=cs[j]:=by simp[List.getD_eq_getElem?_getD,hj]
  have hrt:(cs.getD j z0).root=true:=by rw[hg];exact hroot _ (List.getElem_mem hj)
  have hf:=lV (cs.getD j z0) hrt;rw[<-hg] at j2
  cases hl:lkF F (aL (cs.getD j z0)) with
  |none=>
   rw[lh hl] at j2
   repeat'(first|exact y0|refine y1 ?_|refine y2 ?_ ?_|(refine y8 ?_ ?_<;>intro h<;>try exact y6)|(refine wC ?_;first|refine wF 50 (pu hf ?_))|refine RegX.lkp none rfl rfl rfl rfl rfl hzr hl rfl ?_|refine y3 ?_|refine y7 ?_ ?_|refine y4 ?_|(refine y9 ?_ ?_<;>intro h)|exact y5|fail)
   all_goals try omega
   exact LoopR.same (j+1) ⟨hj,j2⟩ (by omega) rfl ⟨VLe.refl _,trivial⟩ ⟨rfl,rfl,trivial⟩ rfl rfl (by decide)
  |some i=>
   rw[lg hl] at j2;have hi:i<p.length:=hF _ (oN hl)
   repeat'(first|exact y0|refine y1 ?_|refine y2 ?_ ?_|(refine y8 ?_ ?_<;>intro h<;>try exact y6)|(refine wC ?_;first|refine wF 50 (pu hf ?_))|refine RegX.lkp (some i) rfl rfl rfl rfl rfl hzr hl rfl ?_|refine y3 ?_|refine y7 ?_ ?_|refine y4 ?_|(refine y9 ?_ ?_<;>intro h)|exact y5|fail)
   all_goals try exact hi
   ·rw[<-j2,if_pos ‹_›]
    exact⟨.inl rfl,_,[],VLe.refl _,EndOK.by rfl ⟨rfl,rfl,trivial⟩ rfl rfl rfl rfl⟩
   ·rw[<-j2,if_neg ‹_›]
    exact⟨.inl rfl,_,[],VLe.refl _,EndOK.by rfl ⟨rfl,rfl,trivial⟩ rfl rfl rfl rfl⟩
 ·have hd:cs.drop j=[]:=by simp;omega
  rw[hd] at j2;simp only[dt] at j2;rw[<-j2]
  repeat'(first|exact y0|refine y1 ?_|refine y2 ?_ ?_|(refine y8 ?_ ?_<;>intro h<;>try exact y6)|refine y3 ?_|refine y7 ?_ ?_|refine y4 ?_|(refine y9 ?_ ?_<;>intro h)|exact y5|fail)
  all_goals exact⟨.inl rfl,_,[],VLe.refl _,EndOK.by rfl ⟨rfl,rfl,trivial⟩ rfl rfl rfl rfl⟩
set_option maxRecDepth 100000
def fg (i:Nat) (r:Bool) (G:List (Nat×Nat)):List (Nat×Nat):=if r then G else G++[(i,10)]
def bS (op:Int) (i:Nat) (lp:Bool) (G:List (Nat×Nat)):List (Nat×Nat):=if (op=34\/op=35)/\lp=false then G++[(i,8)] else G
def aM:Bool->Fo->Nat->Bool->Bool->List (Nat×Nat)->List (Nat×Nat)
 |_,.nil,_,_,_,G=>G
 |true,.cons x k n,i,lp,r,G=>aM true n (i+1+k.size) lp r (if x.op=4 then aM false k (i+1) lp true G else G)
 |false,.cons x k n,i,lp,r,G=>
  aM false n (i+1+k.size) lp (r&& !decide (x.op=33\/x.op=34\/x.op=35))
   (if x.op=31 then aM true k (i+1) lp true (bS x.op i lp (fg i r G)) else if x.op=32 then aM true k (i+1) true true (bS x.op i lp (fg i r G)) else bS x.op i lp (fg i r G))
theorem uj (op:Int) (i:Nat) (lp r:Bool) (G:List (Nat×Nat)):(bS op i lp (fg i r G)).length<=G.length+2:=by
 unfold bS fg
 split<;>split<;>simp<;>omega
theorem xP (i:Nat) (r:Bool) (G:List (Nat×Nat)):(fg i r G).length<=G.length+1:=by
 unfold fg
 split<;>simp
theorem cI:∀ (m:Bool) (t:Fo) (i:Nat) (lp r:Bool) (G:List (Nat×Nat)),(aM m t i lp r G).length<=G.length+2*t.size
 |true,.nil,_,_,_,_=>Nat.le_refl _
 |false,.nil,_,_,_,_=>Nat.le_refl _
 |true,.cons x k n,i,lp,r,G=>by
  simp only[aM,Fo.size];have h1:=cI true n (i+1+k.size) lp r (if x.op=4 then aM false k (i+1) lp true G else G);split at h1
  ·have h2:=cI false k (i+1) lp true G
   rw[if_pos ‹_›];omega
  ·rw[if_neg ‹_›];omega
 |false,.cons x k n,i,lp,r,G=>by
  simp only[aM,Fo.size];have h0:=uj x.op i lp r G;generalize bS x.op i lp (fg i r G)=G2 at*;have h1:=cI true k (i+1) lp true G2;have h2:=cI true k (i+1) true true G2;have h3:=cI false n (i+1+k.size) lp (r&& !decide (x.op=33\/x.op=34\/x.op=35)) (if x.op=31 then aM true k (i+1) lp true G2 else if x.op=32 then aM true k (i+1) true true G2 else G2)
  have h4:(if x.op=31 then aM true k (i+1) lp true G2 else if x.op=32 then aM true k (i+1) true true G2 else G2).length<=G2.length+2*k.size:=by
   split
   ·exact h1
   ·split
    ·exact h2
    ·omega
  omega
theorem Dd {op:Int} (h:dI 101 op=true): ¬op=4:=by
 intro e;subst e;revert h;decide
theorem pP {x:Nd} {k n:Fo} {cs:List (Bool×Int)} (hv:(Fo.cons x k n).V ((false,83)::cs)) (ho:x.op=31\/x.op=32):
 ∃ e ke rest,k=.cons e ke rest/\ ¬e.op=4/\rest.V (List.replicate rest.cnt (true,83))/\1<=rest.cnt/\(x.op=32->rest.cnt=1):=by
 obtain⟨_,hk,_⟩:=hv
 have key:∀ m:Nat,fG (aD x.op x.kids).1=(false,101)::List.replicate (m+1) (true,83)->(x.op=32->m=0)->∃ e ke rest,k=.cons e ke rest/\ ¬e.op=4/\rest.V (List.replicate rest.cnt (true,83))/\1<=rest.cnt/\(x.op=32->rest.cnt=1):=by
  intro m hs h0;rw[hs] at hk
  cases k with
  |nil=>exact hk.elim
  |cons e ke rest=>
   have hc:=Fo.V_cnt hk.2.2;rw[List.length_replicate] at hc;exact⟨e,ke,rest,rfl,Dd hk.1.1,by rw[hc];exact hk.2.2,by omega,fun h=>by rw[hc,h0 h]⟩
 rcases ho with ho|ho
 ·by_cases h3:x.kids=3
  ·refine key 1 ?_ (fun h=>by omega)
   rw[ho,h3];rfl
  ·refine key 0 ?_ (fun _=>rfl)
   rw[ho];unfold aD;rw[if_neg (by decide),if_neg (by decide),if_neg (by simp[h3])];rfl
 ·refine key 0 ?_ (fun _=>rfl)
  rw[ho];rfl
set_option maxRecDepth 100000
set_option maxHeartbeats 1000000
abbrev stL (p:List Nd) (nD:Nat) (G:List (Nat×Nat)):Hp:=[(0,some (anB p 3 nD 6 G.length)),(6,dgB 6 G)]
abbrev Gh (p:List Nd) (nD:Nat) (G:List (Nat×Nat)):Hp:=[(0,some (anB p 3 nD 8 G.length)),(6,none),(8,dgB 8 G)]
def Ga (p:List Nd) (nD N:Nat):Prop:=∀ (b:Nd) (k:Fo) (i:Nat) (lp:Bool) (G:List (Nat×Nat)),k.size<N->(Fo.cons b k .nil).At p i->(Fo.cons b k .nil).V [(true,83)]->G.length+2*k.size<=1000000000->
 FC Tryz.prog 229 [.s (.ptr (some (0,0))),nI i,bV lp] 8 (stL p nD G) .any 10 (Gh p nD (aM false k (i+1) lp true G))
theorem Gg (p:List Nd) (hp:p.length<=2048) (nD N:Nat) (ih:Ga p nD N):Ga p nD (N+1):=by
 intro b k i lp G hN ha hv hG;have hi:=At.lt ha;have hx:=At.get ha;have hsz:=At.size_le (Nat.le_of_lt hi) ha;simp only[Fo.size] at hsz;have hcs:=bX k (i+1)
 have hkid:(p.getD i dN).kids=((k.starts (i+1)).length:Nat):=by rw[hx,hcs];exact ha.2.1
 have hcc:=Fo.cnt_le k;have hch:=ef p hp i (i+1+k.size) hi (k.starts (i+1)) hkid (At.chain ha.2.2.1) (by omega);have hcs0:(k.starts (i+1)).drop 0=k.starts (i+1):=rfl;have hkA:=ha.2.2.1;have hkV:=hv.2.1;generalize hcsd:k.starts (i+1)=cs at hcs hkid hch;refine FC.walk (by kernel_rfl) Tryz.func229 rfl rfl ?_
 repeat'(first|refine Ex.canon [0,1,2,3,4,5,6,7,6,7] 68 [(0,.s (.ptr (some (0,0)))),(2,bV lp),(6,bV true),(13,.s (mY cs)),(14,nI cs.length),(15,nI 0)] [(0,some (anB p 3 nD 8 (G).length)),(8,dgB 8 (G))] rfl rfl ⟨VLe.refl _,VLe.refl _,VLe.refl _,VLe.refl _,VLe.refl _,VLe.refl _,trivial⟩ ⟨rfl,MemP.op rfl trivial⟩ (by unfold dgB;generalize List.flatMap dgC _=cg;cases cg<;>rfl) (Ex.block ?_)|exact y0|refine y1 ?_|refine y2 ?_ ?_|(refine y8 ?_ ?_<;>intro h<;>try exact y6)|(refine wC ?_;first|(refine wF 228 ?_;refine CallG.mv [0] 0 hch rfl rfl ⟨VLe.refl _,VLe.refl _,trivial⟩ rfl rfl (fun φ w b=>BlAt.view 1 rfl) rfl ⟨⟨rfl,_,rfl,rfl,fun h=>h⟩,trivial⟩ rfl rfl rfl rfl ?_))|refine y3 ?_|refine y7 ?_ ?_|refine y4 ?_|(refine y9 ?_ ?_<;>intro h)|exact y5|fail)
 refine Ex.inv (σ:=Fo×Nat×Nat×Bool×List (Nat×Nat)) (fun q=>[(6,bV q.2.2.2.1),(15,nI q.2.2.1)]) (fun q=>[(0,some (anB p 3 nD 8 (q.2.2.2.2).length)),(8,dgB 8 (q.2.2.2.2))])
  (fun q=>q.1.At p q.2.1/\q.1.V (List.replicate q.1.cnt (false,83))/\(i+1<=q.2.1/\q.2.1+q.1.size=i+1+k.size)/\q.2.2.1+q.1.cnt=cs.length/\cs.drop q.2.2.1=q.1.starts q.2.1/\q.2.2.2.2.length+2*q.1.size<=1000000000/\aM false q.1 q.2.1 lp q.2.2.2.1 q.2.2.2.2=aM false k (i+1) lp true G) (fun q=>q.1.size) (k,i+1,0,true,G) rfl (fun _=>rfl) ?_ ?_ ?_ ?_
 ·refine⟨hkA,hkV,⟨by simp only;omega,by simp only⟩,by simp only;omega,by simp only[List.drop_zero,hcsd],hG,rfl⟩
 ·exact⟨VLe.refl _,VLe.refl _,trivial⟩
 ·exact⟨rfl,SubP.op rfl trivial⟩
 ·rintro⟨t,cur,idx,r,Gt⟩ ⟨t1,t2,⟨t0,t3⟩,t4,t5,t6,t7⟩
  simp only at t0 t1 t2 t3 t4 t5 t6 t7 |-
  cases t with
  |nil=>
   simp only[Fo.cnt,Nat.add_zero] at t4;simp only[aM] at t7;rw[<-t7]
   repeat'(first|exact y0|refine y1 ?_|refine y2 ?_ ?_|(refine y8 ?_ ?_<;>intro h<;>try exact y6)|refine y3 ?_|refine y7 ?_ ?_|refine y4 ?_|(refine y9 ?_ ?_<;>intro h)|exact y5|fail)
   refine⟨.inr rfl,.tup [],[8,9],VLe.any _,EndOK.by rfl ?_ rfl ?_ rfl rfl⟩
   ·exact⟨rfl,MemP.op rfl trivial⟩
   ·exact aT rfl rfl rfl
  |cons x ks n=>
   simp only[Fo.size] at t3 t6;simp only[Fo.cnt] at t4
   have hcur:cs.getD idx 0=cur:=by
    have:(cs.drop idx)[0]? =some cur:=by rw[t5];rfl
    rw[List.getElem?_drop,Nat.add_zero] at this;rw[List.getD_eq_getElem?_getD,this];rfl
   have hnext:cs.drop (idx+1)=n.starts (cur+1+ks.size):=by
    rw[<-List.drop_drop,t5];rfl
   have hcl:=At.lt t1;have hcx:=At.get t1;rw[show aM false (.cons x ks n) cur lp r Gt=aM false n (cur+1+ks.size) lp (r&& !decide (x.op=33\/x.op=34\/x.op=35)) (if x.op=31 then aM true ks (cur+1) lp true (bS x.op cur lp (fg cur r Gt)) else if x.op=32 then aM true ks (cur+1) true true (bS x.op cur lp (fg cur r Gt)) else bS x.op cur lp (fg cur r Gt)) from rfl] at t7;have hG1:=xP cur r Gt;have hG1d:fg cur r Gt=if r then Gt else Gt++[(cur,10)]:=rfl;have hG1d':fg cur r Gt=fg cur r Gt:=rfl;generalize hG1e:fg cur r Gt=G1 at hG1 hG1d t7;rw[hG1e] at hG1d'
   repeat'(first|refine Ex.cutC 20 68 10 [(0,.s (.ptr (some (0,0)))),(2,bV lp),(6,bV r),(8,nI cur),(13,.s (mY cs)),(14,nI cs.length),(15,nI idx)] [(0,some (anB p 3 nD 8 (G1).length)),(8,dgB 8 (G1))] rfl ?_ ?_|refine Ex.cutBI 2 68 10 [(0,.s (.ptr (some (0,0)))),(2,bV lp),(6,bV (r&& !decide (x.op=33\/x.op=34\/x.op=35))),(13,.s (mY cs)),(14,nI cs.length),(15,nI idx)] [(0,some (anB p 3 nD 8 (if x.op=31 then aM true ks (cur+1) lp true (bS x.op cur lp G1) else if x.op=32 then aM true ks (cur+1) true true (bS x.op cur lp G1) else bS x.op cur lp G1).length)),(8,dgB 8 (if x.op=31 then aM true ks (cur+1) lp true (bS x.op cur lp G1) else if x.op=32 then aM true ks (cur+1) true true (bS x.op cur lp G1) else bS x.op cur lp G1))] rfl ?_ ?_|exact y0|refine y1 ?_|refine y2 ?_ ?_|(refine y8 ?_ ?_<;>intro h<;>try exact y6)|refine y3 ?_|refine y7 ?_ ?_|refine y4 ?_|(refine y9 ?_ ?_<;>intro h)|exact y5|fail)
   all_goals try omega
   ·have hr:r=false:=by
     cases r
     ·rfl
     ·simp at*
    subst hr;subst hG1d
    repeat'(first|exact y0|refine y1 ?_|refine y2 ?_ ?_|(refine y8 ?_ ?_<;>intro h<;>try exact y6)|(refine wC ?_;first|(refine wF 117 ?_;refine CallG.mo [0,1,2,3,4,5,8,9] (bB p nD Gt cur 10 (by omega)) rfl (aT rfl rfl rfl) rfl rfl rfl ⟨VLe.refl _,VLe.of_eq (congrArg nI (by rw[hcur])),VLe.refl _,trivial⟩ ⟨⟨rfl,_,rfl,rfl,fun h=>h⟩,FitP.op rfl rfl trivial⟩ rfl rfl (wr:=[(0,some (anB p 3 nD 10 (Gt.length+1))),(8,none),(10,dgB 10 (Gt++[(cur,10)]))]) (by show [_,_,_]=_;rw[ah];rfl) ?_))|refine y3 ?_|refine y7 ?_ ?_|refine y4 ?_|(refine y9 ?_ ?_<;>intro h)|exact y5|fail)
    rw[show (if false=true then Gt else Gt++[(cur,10)]).length=Gt.length+1 from by simp];refine CutR.at [0,1,2,3,4,5,6,7,10,11] rfl rfl ⟨VLe.refl _,VLe.refl _,VLe.refl _,VLe.of_eq (congrArg nI (by rw[hcur])),VLe.refl _,VLe.refl _,VLe.refl _,trivial⟩ ⟨rfl,MemP.op rfl trivial⟩ ?_
    (unfold dgB;generalize List.flatMap dgC _=cg;cases cg<;>rfl)
   ·have hr:r=true:=by
     cases r
     ·simp at*
     ·rfl
    subst hr;subst hG1d;refine CutR.at [0,1,2,3,4,5,6,7,8,9] rfl rfl ⟨VLe.refl _,VLe.refl _,VLe.refl _,VLe.of_eq (congrArg nI (by rw[hcur])),VLe.refl _,VLe.refl _,VLe.refl _,trivial⟩ ⟨rfl,MemP.op rfl trivial⟩ ?_
    (unfold dgB;generalize List.flatMap dgC _=cg;cases cg<;>rfl)
   ·have ho:x.op=33:=by rw[<-hcx];assumption
    rw[if_neg (by omega),if_neg (by omega),decide_eq_true (by omega),Bool.not_true,Bool.and_false];unfold bS;rw[if_neg (by omega)];refine CutR.at [0,1,2,3,4,5,6,7,8,9] rfl rfl ⟨VLe.refl _,VLe.refl _,VLe.refl _,VLe.refl _,VLe.refl _,VLe.refl _,trivial⟩ ⟨rfl,MemP.op rfl trivial⟩ ?_
    (unfold dgB;generalize List.flatMap dgC _=cg;cases cg<;>rfl)
   ·have ho:x.op=34:=by rw[<-hcx];assumption
    have hlp:lp=false:=by
     cases lp
     ·rfl
     ·simp at*
    subst hlp;rw[if_neg (by omega),if_neg (by omega),decide_eq_true (by omega),Bool.not_true,Bool.and_false];unfold bS;rw[if_pos ⟨by omega,rfl⟩,List.length_append,List.length_singleton]
    repeat'(first|exact y0|refine y1 ?_|refine y2 ?_ ?_|(refine y8 ?_ ?_<;>intro h<;>try exact y6)|(refine wC ?_;first|(refine wF 117 ?_;refine CallG.mo [0,1,2,3,4,5,8,9] (bB p nD G1 cur 8 (by omega)) rfl (aT rfl rfl rfl) rfl rfl rfl ⟨VLe.refl _,VLe.refl _,VLe.refl _,trivial⟩ ⟨⟨rfl,_,rfl,rfl,fun h=>h⟩,FitP.op rfl rfl trivial⟩ rfl rfl (wr:=[(0,some (anB p 3 nD 10 (G1.length+1))),(8,none),(10,dgB 10 (G1++[(cur,8)]))]) (by show [_,_,_]=_;rw[ah];rfl) ?_))|refine y3 ?_|refine y7 ?_ ?_|refine y4 ?_|(refine y9 ?_ ?_<;>intro h)|exact y5|fail)
    refine CutR.at [0,1,2,3,4,5,6,7,10,11] rfl rfl ⟨VLe.refl _,VLe.refl _,VLe.refl _,VLe.refl _,VLe.refl _,VLe.refl _,trivial⟩ ⟨rfl,MemP.op rfl trivial⟩ ?_
    (unfold dgB;generalize List.flatMap dgC _=cg;cases cg<;>rfl)
   ·have ho:x.op=34:=by rw[<-hcx];assumption
    have hlp:lp=true:=by
     cases lp
     ·simp at*
     ·rfl
    subst hlp;rw[if_neg (by omega),if_neg (by omega),decide_eq_true (by omega),Bool.not_true,Bool.and_false];unfold bS;rw[if_neg (by simp)];refine CutR.at [0,1,2,3,4,5,6,7,8,9] rfl rfl ⟨VLe.refl _,VLe.refl _,VLe.refl _,VLe.refl _,VLe.refl _,VLe.refl _,trivial⟩ ⟨rfl,MemP.op rfl trivial⟩ ?_
    (unfold dgB;generalize List.flatMap dgC _=cg;cases cg<;>rfl)
   ·have ho:x.op=35:=by rw[<-hcx];assumption
    have hlp:lp=false:=by
     cases lp
     ·rfl
     ·simp at*
    subst hlp;rw[if_neg (by omega),if_neg (by omega),decide_eq_true (by omega),Bool.not_true,Bool.and_false];unfold bS;rw[if_pos ⟨by omega,rfl⟩,List.length_append,List.length_singleton]
    repeat'(first|exact y0|refine y1 ?_|refine y2 ?_ ?_|(refine y8 ?_ ?_<;>intro h<;>try exact y6)|(refine wC ?_;first|(refine wF 117 ?_;refine CallG.mo [0,1,2,3,4,5,8,9] (bB p nD G1 cur 8 (by omega)) rfl (aT rfl rfl rfl) rfl rfl rfl ⟨VLe.refl _,VLe.refl _,VLe.refl _,trivial⟩ ⟨⟨rfl,_,rfl,rfl,fun h=>h⟩,FitP.op rfl rfl trivial⟩ rfl rfl (wr:=[(0,some (anB p 3 nD 10 (G1.length+1))),(8,none),(10,dgB 10 (G1++[(cur,8)]))]) (by show [_,_,_]=_;rw[ah];rfl) ?_))|refine y3 ?_|refine y7 ?_ ?_|refine y4 ?_|(refine y9 ?_ ?_<;>intro h)|exact y5|fail)
    refine CutR.at [0,1,2,3,4,5,6,7,10,11] rfl rfl ⟨VLe.refl _,VLe.refl _,VLe.refl _,VLe.refl _,VLe.refl _,VLe.refl _,trivial⟩ ⟨rfl,MemP.op rfl trivial⟩ ?_
    (unfold dgB;generalize List.flatMap dgC _=cg;cases cg<;>rfl)
   ·have ho:x.op=35:=by rw[<-hcx];assumption
    have hlp:lp=true:=by
     cases lp
     ·simp at*
     ·rfl
    subst hlp;rw[if_neg (by omega),if_neg (by omega),decide_eq_true (by omega),Bool.not_true,Bool.and_false];unfold bS;rw[if_neg (by simp)];refine CutR.at [0,1,2,3,4,5,6,7,8,9] rfl rfl ⟨VLe.refl _,VLe.refl _,VLe.refl _,VLe.refl _,VLe.refl _,VLe.refl _,trivial⟩ ⟨rfl,MemP.op rfl trivial⟩ ?_
    (unfold dgB;generalize List.flatMap dgC _=cg;cases cg<;>rfl)
   ·have ho:x.op=31:=by rw[<-hcx];assumption
    obtain⟨e,ke,rest,rfl,he,hrV,hr1,hr32⟩:=pP t2 (by omega);have hcs':=bX (.cons e ke rest) (cur+1)
    have hkid':(p.getD cur dN).kids=(((Fo.cons e ke rest).starts (cur+1)).length:Nat):=by rw[hcx,hcs'];exact t1.2.1
    have hcc':=Fo.cnt_le (.cons e ke rest);have hch':=ef p hp cur (cur+1+(Fo.cons e ke rest).size) hcl _ hkid' (At.chain t1.2.2.1) (by omega);have hd1:((Fo.cons e ke rest).starts (cur+1)).drop 1=rest.starts (cur+1+1+ke.size):=rfl;have hrA:=t1.2.2.1.2.2.2;simp only[Fo.cnt,Fo.size] at hcs' hcc' t3 t6;generalize (Fo.cons e ke rest).starts (cur+1)=cs' at*
    have hst:∀ (m:Bool) (lq:Bool) (r:Bool) (G:List (Nat×Nat)),aM true (.cons e ke rest) (cur+1) lq r G=aM true rest (cur+1+1+ke.size) lq r G:=fun m lq r G=>by simp only[aM,if_neg he]
    rw[hst true,hst true] at t7;rw[hst true,hst true]
    have hG2:bS x.op cur lp G1=G1:=by unfold bS;rw[if_neg (by omega)]
    rw[hG2] at t7 |-;rw[decide_eq_false (by omega),Bool.not_false,Bool.and_true] at*;rw[if_pos ho] at t7 |-
    repeat'(first|exact y0|refine y1 ?_|refine y2 ?_ ?_|(refine y8 ?_ ?_<;>intro h<;>try exact y6)|(refine wC ?_;first|(refine wF 228 ?_;refine CallG.mv [0] 0 hch' rfl rfl ⟨VLe.refl _,VLe.refl _,trivial⟩ rfl rfl (fun φ w b=>BlAt.view 1 rfl) rfl ⟨⟨rfl,_,rfl,rfl,fun h=>h⟩,trivial⟩ rfl rfl rfl rfl ?_))|refine y3 ?_|refine y7 ?_ ?_|refine y4 ?_|(refine y9 ?_ ?_<;>intro h)|exact y5|fail)
    all_goals try omega
    refine Ex.inv (σ:=Fo×Nat×Nat×List (Nat×Nat)) (fun q=>[(49,nI q.2.2.1)]) (fun q=>[(0,some (anB p 3 nD 8 (q.2.2.2).length)),(8,dgB 8 (q.2.2.2))])
     (fun q=>q.1.At p q.2.1/\q.1.V (List.replicate q.1.cnt (true,83))/\(cur+1+1+ke.size<=q.2.1/\q.2.1+q.1.size=cur+1+(1+ke.size+rest.size))/\q.2.2.1+q.1.cnt=rest.cnt/\cs'.drop (1+q.2.2.1)=q.1.starts q.2.1/\q.2.2.2.length+2*q.1.size<=1000000000/\aM true q.1 q.2.1 lp true q.2.2.2=aM true rest (cur+1+1+ke.size) lp true G1) (fun q=>q.1.size) (rest,cur+1+1+ke.size,0,G1) rfl (fun _=>rfl) ?_ ?_ ?_ ?_
    ·exact⟨hrA,hrV,⟨Nat.le_refl _,by simp only;omega⟩,by simp only;omega,hd1,by simp only;omega,rfl⟩
    ·exact⟨VLe.refl _,trivial⟩
    ·exact⟨rfl,SubP.op rfl trivial⟩
    ·rintro⟨u,cu,iu,Gu⟩ ⟨u1,u2,⟨u0,u3⟩,u4,u5,u6,u7⟩
     simp only at u0 u1 u2 u3 u4 u5 u6 u7 |-
     cases u with
     |nil=>
      simp only[Fo.cnt,Nat.add_zero] at u4;simp only[aM] at u7;rw[<-u7]
      repeat'(first|exact y0|refine y1 ?_|refine y2 ?_ ?_|(refine y8 ?_ ?_<;>intro h<;>try exact y6)|refine y3 ?_|refine y7 ?_ ?_|refine y4 ?_|(refine y9 ?_ ?_<;>intro h)|exact y5|fail)
      all_goals try omega
      refine CutR.at [0,1,2,3,4,5,6,7,8,9] rfl rfl ⟨VLe.refl _,VLe.refl _,VLe.refl _,VLe.refl _,VLe.refl _,VLe.refl _,trivial⟩ ⟨rfl,MemP.op rfl trivial⟩ ?_
      (unfold dgB;generalize List.flatMap dgC _=cg;cases cg<;>rfl)
     |cons b' bl' n'=>
      simp only[Fo.size] at u3 u6;simp only[Fo.cnt] at u4
      have hbi:cs'.getD (1+iu) 0=cu:=by
       have:(cs'.drop (1+iu))[0]? =some cu:=by rw[u5];rfl
       rw[List.getElem?_drop,Nat.add_zero] at this;rw[List.getD_eq_getElem?_getD,this];rfl
      have hnx:cs'.drop (1+(iu+1))=n'.starts (cu+1+bl'.size):=by
       rw[show 1+(iu+1)=1+iu+1 by omega,<-List.drop_drop,u5];rfl
      have hb4:b'.op=4:=u2.1.1;rw[show aM true (.cons b' bl' n') cu lp true Gu=aM true n' (cu+1+bl'.size) lp true (aM false bl' (cu+1) lp true Gu) from by simp only[aM,if_pos hb4]] at u7;have hrec:=ih b' bl' cu lp Gu (by omega) ⟨u1.1,u1.2.1,u1.2.2.1,trivial⟩ ⟨u2.1,u2.2.1,trivial⟩ (by omega);have hln:=cI false bl' (cu+1) lp true Gu;generalize aM false bl' (cu+1) lp true Gu=G3 at*
      repeat'(first|exact y0|refine y1 ?_|refine y2 ?_ ?_|(refine y8 ?_ ?_<;>intro h<;>try exact y6)|(refine wC ?_;first|(refine wF 229 ?_;refine CallG.mo [0,1,2,3,4,5,8,9] hrec rfl (aT rfl rfl rfl) rfl rfl rfl ⟨VLe.refl _,VLe.of_eq (congrArg nI (by rw[hbi])),VLe.refl _,trivial⟩ ⟨⟨rfl,_,rfl,rfl,fun h=>h⟩,FitP.op rfl rfl trivial⟩ rfl rfl (wr:=[(0,some (anB p 3 nD 10 G3.length)),(8,none),(10,dgB 10 G3)]) (by show [_,_,_]=_;rw[ah];rfl) ?_))|refine y3 ?_|refine y7 ?_ ?_|refine y4 ?_|(refine y9 ?_ ?_<;>intro h)|exact y5|fail)
      all_goals try omega
      refine LoopR.move (n',cu+1+bl'.size,iu+1,G3) ⟨u1.2.2.2,u2.2.2,⟨by simp only;omega,by simp only;omega⟩,by simp only;omega,hnx,by simp only;omega,u7⟩ (by simp only[Fo.size];omega) [0,1,2,3,4,5,6,7,10,11] rfl ?_ ?_ ?_
      ·repeat' (first|exact VLe.refl _|exact VLe.any _|exact True.intro|refine⟨?_,?_⟩)
      ·exact⟨rfl,MemP.op rfl trivial⟩
      ·(unfold dgB;generalize List.flatMap dgC _=cg;cases cg<;>rfl)
   ·have ho:x.op=32:=by rw[<-hcx];assumption
    obtain⟨e,ke,rest,rfl,he,hrV,hr1,hr32⟩:=pP t2 (by omega);have hcs':=bX (.cons e ke rest) (cur+1)
    have hkid':(p.getD cur dN).kids=(((Fo.cons e ke rest).starts (cur+1)).length:Nat):=by rw[hcx,hcs'];exact t1.2.1
    have hcc':=Fo.cnt_le (.cons e ke rest);have hch':=ef p hp cur (cur+1+(Fo.cons e ke rest).size) hcl _ hkid' (At.chain t1.2.2.1) (by omega);have hd1:((Fo.cons e ke rest).starts (cur+1)).drop 1=rest.starts (cur+1+1+ke.size):=rfl;have hrA:=t1.2.2.1.2.2.2;simp only[Fo.cnt,Fo.size] at hcs' hcc' t3 t6;generalize (Fo.cons e ke rest).starts (cur+1)=cs' at*
    have hst:∀ (m:Bool) (lq:Bool) (r:Bool) (G:List (Nat×Nat)),aM true (.cons e ke rest) (cur+1) lq r G=aM true rest (cur+1+1+ke.size) lq r G:=fun m lq r G=>by simp only[aM,if_neg he]
    rw[hst true,hst true] at t7;rw[hst true,hst true]
    have hG2:bS x.op cur lp G1=G1:=by unfold bS;rw[if_neg (by omega)]
    rw[hG2] at t7 |-;rw[decide_eq_false (by omega),Bool.not_false,Bool.and_true] at*;rw[if_neg (by omega),if_pos ho] at t7 |-;have hc1:=hr32 ho
    cases rest with
    |nil=>exact absurd hr1 (by decide)
    |cons b' bl' n'=>
     cases n' with
     |cons b2 bl2 n2=>simp only[Fo.cnt] at hc1;omega
     |nil=>
      have hb4:b'.op=4:=hrV.1.1
      have hbi:cs'.getD 1 0=cur+1+1+ke.size:=by
       have:(cs'.drop 1)[0]? =some (cur+1+1+ke.size):=by rw[hd1];rfl
       rw[List.getElem?_drop,Nat.add_zero] at this;rw[List.getD_eq_getElem?_getD,this];rfl
      simp only[Fo.size,Nat.add_zero] at t3 t6;rw[show aM true (.cons b' bl' .nil) (cur+1+1+ke.size) true true G1=aM false bl' (cur+1+1+ke.size+1) true true G1 from by simp only[aM,if_pos hb4]] at t7 |-;have hrec:=ih b' bl' (cur+1+1+ke.size) true G1 (by omega) hrA hrV (by omega);generalize aM false bl' (cur+1+1+ke.size+1) true true G1=G3 at*;simp only[Fo.cnt] at hcs'
      repeat'(first|exact y0|refine y1 ?_|refine y2 ?_ ?_|(refine y8 ?_ ?_<;>intro h<;>try exact y6)|(refine wC ?_;first|(refine wF 228 ?_;refine CallG.mv [0] 0 hch' rfl rfl ⟨VLe.refl _,VLe.refl _,trivial⟩ rfl rfl (fun φ w b=>BlAt.view 1 rfl) rfl ⟨⟨rfl,_,rfl,rfl,fun h=>h⟩,trivial⟩ rfl rfl rfl rfl ?_)|(refine wF 229 ?_;refine CallG.mo [0,1,2,3,4,5,8,9] hrec rfl (aT rfl rfl rfl) rfl rfl rfl ⟨VLe.refl _,VLe.of_eq (congrArg nI (by rw[hbi])),VLe.refl _,trivial⟩ ⟨⟨rfl,_,rfl,rfl,fun h=>h⟩,FitP.op rfl rfl trivial⟩ rfl rfl (wr:=[(0,some (anB p 3 nD 10 G3.length)),(8,none),(10,dgB 10 G3)]) (by show [_,_,_]=_;rw[ah];rfl) ?_))|refine y3 ?_|refine y7 ?_ ?_|refine y4 ?_|(refine y9 ?_ ?_<;>intro h)|exact y5|fail)
      all_goals try omega
      refine CutR.at [0,1,2,3,4,5,6,7,10,11] rfl rfl ⟨VLe.refl _,VLe.refl _,VLe.refl _,VLe.refl _,VLe.refl _,VLe.refl _,trivial⟩ ⟨rfl,MemP.op rfl trivial⟩ ?_
      (unfold dgB;generalize List.flatMap dgC _=cg;cases cg<;>rfl)
   ·rw[<-hcx] at t7 |-
    rw[if_neg (by omega),if_neg (by omega),decide_eq_false (by omega),Bool.not_false,Bool.and_true];unfold bS;rw[if_neg (by omega)];refine CutR.at [0,1,2,3,4,5,6,7,8,9] rfl rfl ⟨VLe.refl _,VLe.refl _,VLe.refl _,VLe.refl _,VLe.refl _,VLe.refl _,trivial⟩ ⟨rfl,MemP.op rfl trivial⟩ ?_
    (unfold dgB;generalize List.flatMap dgC _=cg;cases cg<;>rfl)
   ·have hln:(if x.op=31 then aM true ks (cur+1) lp true (bS x.op cur lp G1) else if x.op=32 then aM true ks (cur+1) true true (bS x.op cur lp G1) else bS x.op cur lp G1).length+2*n.size<=1000000000:=by
     have h0:=uj x.op cur lp r Gt;rw[hG1e] at h0;have h1:=cI true ks (cur+1) lp true (bS x.op cur lp G1);have h2:=cI true ks (cur+1) true true (bS x.op cur lp G1);split
     ·omega
     ·split<;>omega
    generalize (if x.op=31 then aM true ks (cur+1) lp true (bS x.op cur lp G1) else if x.op=32 then aM true ks (cur+1) true true (bS x.op cur lp G1) else bS x.op cur lp G1)=G4 at*;refine LoopR.same (n,cur+1+ks.size,idx+1,(r&& !decide (x.op=33\/x.op=34\/x.op=35)),G4) ⟨t1.2.2.2,t2.2.2,⟨by simp only;omega,by simp only;omega⟩,by simp only;omega,hnext,hln,t7⟩ (by simp only[Fo.size];omega) rfl ⟨VLe.refl _,VLe.refl _,trivial⟩ ⟨rfl,SubP.op rfl trivial⟩ rfl ?_ (by decide);exact aT rfl rfl rfl
theorem ui (p:List Nd) (hp:p.length<=2048) (nD:Nat):∀ N,Ga p nD N
 |0=>fun b k i lp G h=>absurd h (Nat.not_lt_zero _)
 |N+1=>Gg p hp nD N (ui p hp nD N)
end Go.Proofs.YtegjgpldfgjoiaaGreatDoor
