import Derived.Test.YtegjgpldfgjoiaaGreatDoorCnJ23
import Derived.Test.YtegjgpldfgjoiaaGreatDoorCnJ22
set_option linter.all false
set_option maxHeartbeats 40000000
set_option maxRecDepth 100000
namespace Go.Proofs.YtegjgpldfgjoiaaGreatDoor
open Go Ab
section
variable {p:List Nd} {num:Int} {i m:Nat} {bl:Bl} {A B:List Ent}
section
variable {P:Program} {b:Nat} {env:List V} {n:Nat} {L:Hp} {R:Post}
theorem Ex.cel {c:Code} (j o:Nat) {s s':S} (hl:lk L j=some bl) (ho:bl.cells[o]? =some s) (hle:SLe s s') {L':Hp} (hL:put L j (some {bl with cells:=bl.cells.set o s'})=L') (k:Ex P b c env n L' R):Ex P b c env n L R:=by
 subst hL;refine Ex.subF (λi bl' hi=>?_) k;rw[aC] at hi;split at hi
 ·rename_i e;subst e;cases hi
  refine⟨bl,hl,rfl,λφ w c h=>?_⟩;obtain⟨pre,xs,rest,fr,h1,hp,h2,h3,h4,h5⟩:=h;exact⟨pre,xs,rest,fr,h1,hp,fE h2 (λx hx=>hle _ _ (gO h2 ho hx)),h3,h4,h5⟩
 all_goals grind
theorem Ex.cel16 {ops:Array Oper} {d:Bool} (j o:Nat) {s s':S} (hl:lk L j=some bl) (ho:bl.cells[o]? =some s) (hle:SLe s s') {L':Hp} (hL:put L j (some {bl with cells:=bl.cells.set o s'})=L') (k:Ex P b (.region 16 ops d) env n L' R):Ex P b (.region 16 ops d) env n L R:=Ex.cel j o hl ho hle hL k
theorem Ex.fzC16 {ops:Array Oper} {d:Bool} (j o:Nat) (get:Nat->List S) (sz:Nat) {s:S} {N:Nat} {blj:Bl} (hlj:lk L j=some blj) (hij:i≠j) (hs:blj.cells[o]? =some s) (ht:dQ (.s s)=some (i,N)) (hl:lk L i=some bl) (hro:bl.ro=false) (hk:bl.kind=none)
 (hg:∀ k,k<N->(get k).length=sz) (hc:∀ k j x,k<N->(get k)[j]? =some x->bl.cells[k*sz+j]? =some x/\bL x=true)
 {L':Hp} (hL:put (put L i none) j (some {blj with cells:=blj.cells.set o (.frz get sz N)})=L') (k:Ex P b (.region 16 ops d) env n L' R):Ex P b (.region 16 ops d) env n L R:=Ex.fzC j o get sz hlj hij hs ht hl hro hk hg hc hL k
end
structure Fd where
 node:Int
 scope:By
 units:List Int
 bits:Int
def HN (l:List Int):S:=.frz (λk=>[.int .i64 (l.getD k 0)]) 1 l.length
def mr (d:Fd):List S:=[.int .i64 d.node,.str d.scope,HN d.units,.int .i64 d.bits]
abbrev nY (c:Nat) (fs:List Fd):Option Bl:=fq 129 (c+1) 4 (fs.flatMap mr)
abbrev h_ (c:Nat) (l:List Int):Option Bl:=fq 3 (c+1) 1 (l.map λz=>S.int .i64 z)
abbrev eL (nt num:Int) (p:List Nd) (Eo:List Nat) (E:List Ent) (fs:List Fd):Hp:=[(0,some (gD (E.length:Nat) nt num p Eo (.row 4 5 fs.length) (.slc none 0 (some 0)))),(1,some (oB E)),(2,some (pB E)),(4,nY 4 fs)]
abbrev CH (nt num:Int) (p:List Nd) (Eo:List Nat) (E:List Ent) (fs:List Fd):Hp:=[(0,some (gD (E.length:Nat) nt num p Eo (.row 6 7 fs.length) (.slc none 0 (some 0)))),(1,some (oB E)),(2,some (pB E)),(4,none),(6,nY 6 fs)]
theorem DO {nt:Int} {Eo:List Nat} {E:List Ent} {fs:List Fd}:fg 8 (CH nt num p Eo E fs)=true:=by
 unfold CH nY;generalize List.flatMap mr fs=cg
 cases cg<;>rfl
section
variable {P:Program} {fn:Func} {env:List V} {nt num:Int} {p:List Nd} {Eo:List Nat} {E:List Ent} {z z':Int} {e:Exit} {M:Hp} {m:Nat} {fs fs':List Fd}
theorem Fin.fd (c:Nat) (hx:e=.ret\/e=.normal) (h0:lk M 0=some (gD (E.length:Nat) nt num p Eo (.row c (c+1) fs.length) (.slc none 0 (some 0)))) (h1:lk M 1=some (oB E)) (h2:lk M 2=some (pB E)) (h4:lk M c=nY c fs)
 (hr:gC P fn env M=some (.s (.int .i64 z'))) (hn:co (List.range 6++[c,c+1])=true) (hz:z'=z) (hf:fs=fs'):Fin P fn 6 (.s (.int .i64 z)) 8 (CH nt num p Eo E fs') e env m M:=by
 subst hz;subst hf;exact⟨hx,_,[c,c+1],ah _,fY hr ⟨h0,h1,h2,bh h4 trivial⟩ rfl DO rfl hn⟩
theorem Fin.f4 (hx:e=.ret\/e=.normal) (h0:lk M 0=some (gD (E.length:Nat) nt num p Eo (.row 4 5 fs.length) (.slc none 0 (some 0)))) (h1:lk M 1=some (oB E)) (h2:lk M 2=some (pB E)) (h4:lk M 4=nY 4 fs)
 (hr:gC P fn env M=some (.s (.int .i64 z'))) (hz:z'=z) (hf:fs=fs'):Fin P fn 6 (.s (.int .i64 z)) 8 (CH nt num p Eo E fs') e env m M:=by
 subst hz;subst hf;refine⟨hx,_,[4,5],ah _,uI hr ⟨h0,h1,h2,bh h4 trivial⟩ rfl DO rfl ?_ ?_⟩
 ·unfold CH nY
  generalize List.flatMap mr fs=cg
  cases cg<;>rfl
 ·unfold CH nY
  generalize List.flatMap mr fs=cg
  cases cg<;>rfl
end
def LG (x y:Ent):Prop:=x.path=y.path/\x.op=y.op/\x.par=y.par/\x.tab=y.tab/\x.node=y.node
inductive Gro (p:List Nd) (num:Int) (m:Nat):List Ent->List Ent->Prop where
 |refl (E:List Ent):Gro p num m E E
 |add {E E1 E2:List Ent} {i:Nat} {sc q:Pth} (hi:i+1<p.length) (h:AddOK p num E i sc E1 q) (k:Gro p num m E1 E2):Gro p num m E E2
 |spec {E E2:List Ent} {j:Nat} {y:Ent} (hm:m<=j) (hj:j<E.length) (hs:LG y (E.getD j eZ)) (k:Gro p num m (E.set j y) E2):Gro p num m E E2
theorem Gro.trans {C:List Ent} (h:Gro p num m A B) (k:Gro p num m B C):Gro p num m A C:=by
 induction h with
 |refl=>exact k
 |add hi h _ ih=>exact .add hi h (ih k)
 |spec hm hj hs _ ih=>exact .spec hm hj hs (ih k)
theorem AddOK.len {E E':List Ent} {sc q:Pth} (h:AddOK p num E i sc E' q):E'.length=E.length+1:=by
 grind [h.up]
theorem Gro.len (h:Gro p num m A B):A.length<=B.length:=by
 induction h with
 |refl=>exact Z02 _
 |add hi h _ ih=>have:=h.len;omega
 |spec hm hj hs _ ih=>rw[Z18] at ih;exact ih
theorem Jb {op:Int} (h:bH 70 op=true):op=18\/op=19:=by
 grind [dy,bH]
theorem yg (h:aN p i=false) (ho:(p.getD i dN).op=18):aj p (i+2)<=256:=by
 grind [aN]
theorem yf (h:aN p i=false) (ho:(p.getD i dN).op=19):aj p (i+1)<=8388608:=by
 grind [aN]
def CE (x:Ent) (bit len wid upd:Int):Ent:={x with sp:=0,ba:=0,ln:=0,bit:=bit,len:=len,wid:=wid,upd:=upd,idx:= -1,dat:= -1}
theorem JU (E:List Ent) (j:Nat) (a b c d:Int):pB (E.set j (CE (E.getD j eZ) a b c d))=pB E:=by
 unfold pB;rw[Z18,t_ E 0 j _ (λx hx=>by rw[Z00,hx];rfl)]
def dI (p:List Nd) (num:Int) (sc:Pth) (wid upd:Int):Fo->Nat->List Ent->List Int->Int->List Ent×List Int×Int×Int
 | .nil,_,E,us,bits=>(E,us,bits,0)
 | .cons x k n,c,E,us,bits=>
   if x.op=19 then dI p num sc wid upd n (c+1+k.size) E us (bits+aj p (c+1))
   else if (bt p num E c sc).2.2.2≠0 then ((bt p num E c sc).1,us,bits,(bt p num E c sc).2.2.2)
   else dI p num sc wid upd n (c+1+k.size) ((bt p num E c sc).1.set E.length (CE ((bt p num E c sc).1.getD E.length eZ) bits (aj p (c+2)) wid upd)) (us++[(E.length:Int)]) (bits+aj p (c+2))
def ud (i:Nat) (sc:Pth) (fs:List Fd) (R:List Ent×List Int×Int×Int):List Fd:=if R.2.2.2=0 then fs++[⟨i,aM sc,R.2.1,R.2.2.1⟩] else fs
theorem tU:∀ fs:List Fd,(fs.flatMap mr).length=fs.length*4
 |[]=>rfl
 |x::G=>by rw[Z0g,Z03,tU G];simp only[Z04];simp[mr];omega
theorem CU (l:List Int):∀ (k j:Nat) (x:S),k<l.length->([S.int .i64 (l.getD k 0)])[j]? =some x->(l.map λz=>S.int .i64 z)[k*1+j]? =some x/\bL x=true:=by
 intro k j x hk hx
 cases j with
 |succ j=>simp at hx
 |zero=>
  simp only[Z11,Z06] at hx;subst hx;rw[Z1p,Z0p,Z0t,Z01 hk,Z00,Z01 hk];exact⟨rfl,rfl⟩
theorem Fg (nt num:Int) (p:List Nd) (Eo:List Nat) (hp:p.length<=2048) (hw:oh p) (hI:li p) (hO:∀ j,j<p.length->aN p j=false) (hNA:∀ j,j<p.length->kN p j) (hE:EOK p Eo) (E:List Ent) (fs:List Fd) (hfs:fs.length<=100000)
 (i b:Nat) (x:Nd) (kf:Fo) (ha:(Fo.cons x kf .nil).At p b) (hv:kf.V (List.replicate kf.cnt (false,70))) (hb:2<=b) (n1:aj p (b-2)<=1000) (n2:aj p (b-1)<=1000) (sc:Pth) (hsc:sc.root=true) (R:List Ent×List Int×Int×Int) (hR:dI p num sc (aj p (b-2)) (aj p (b-1)) kf (b+1) E [] 0=R):
   FQ 186 [.s (.ptr (some (0,0))),nI i,nI b,hY sc] 6 (eL nt num p Eo E fs) (.s (.int .i64 R.2.2.2)) 8 (CH nt num p Eo R.1 (ud i sc fs R)):=by
 have hf:=qh sc hsc;have hbl:=At.lt ha;have heb:=hE.get ha;have hel:=hE.len;have hsz:=At.size_le (Z1k hbl) ha;simp only[Fo.size] at hsz
 obtain⟨s,rt⟩:∃ s,s=aM sc:=⟨_,rfl⟩
 unfold ud;rw[<-rt] at hf |-;refine wW Tryz.func186 ?_
 repeat'(first|refine yA ?_|refine y2 ?_ ?_|refine an hf ?_|exact y5|fail)
 refine Ex.cel 7 2 (s':=.row 8 9 0) rfl rfl SLe.nilrow rfl (Ex.upN (n':=10) ac ?_)
 refine cy (σ:=Fo×Nat×List Ent×List Int×Int) (λq=>[(10,nI q.2.1)]) (λq=>[(0,some (gD (q.2.2.1.length:Nat) nt num p Eo (.row 4 5 fs.length) (.slc none 0 (some 0)))),(1,some (oB q.2.2.1)),(2,some (pB q.2.2.1)),(4,nY 4 fs),(6,some {cells:=cH sc,ty:=99}),(7,some {cells:=[.int .i64 (i:Int),.str s,.row 8 9 q.2.2.2.1.length,.int .i64 q.2.2.2.2],ty:=129}),(8,h_ 8 q.2.2.2.1)])
  (λq=>q.1.At p q.2.1/\q.1.V (List.replicate q.1.cnt (false,70))/\(b+1<=q.2.1/\q.2.1+q.1.size=b+1+kf.size)/\q.2.2.2.1.length+q.1.size<=2048/\0<=q.2.2.2.2/\q.2.2.2.2+8388608*q.1.size<=20000000000/\dI p num sc (aj p (b-2)) (aj p (b-1)) q.1 q.2.1 q.2.2.1 q.2.2.2.1 q.2.2.2.2=R) (λq=>q.1.size) (kf,b+1,E,[],0) rfl (λ_=>rfl) ?_ ?_ ?_ ?_
 ·refine⟨ha.2.2.1,hv,⟨ae,ae⟩,ae,ae,ae,hR⟩
 ·exact⟨bB (congrArg nI ae),trivial⟩
 ·exact⟨rfl,rfl,rfl,fF rfl ⟨rfl,rfl,fF rfl trivial⟩⟩
 rintro⟨t,cur,E1,us,bits⟩ ⟨t1,t2,⟨t3,t4⟩,t5,t6,t7,t8⟩;simp only at t1 t2 t3 t4 t5 t6 t7 t8 |-
 cases t with
 |nil=>
  simp only[dI] at t8;subst t8;simp only[Fo.size] at t4;simp only[if_true];have hsz4:(Tryz.prog.types[129]).size=4:=aK;have hby4:(Tryz.prog.types[129]).bytes=56:=aK;have hfl:=tU fs
  cases us with
  |nil=>
   repeat'(first|refine Ex.cel16 7 2 (s':=HN []) rfl rfl SLe.row0 rfl ?_|refine y1 ?_|refine y2 ?_ ?_|refine y4 λh=>?_|refine gZ (i:=4) (g:=5) (m:=fs.length) (w:=4) (cs:=fs.flatMap mr) (foot:=[10]) (k:=1) (add:=mr ⟨i,s,[],bits⟩) rfl rfl (by rw[tU]) rfl rfl rfl rfl rfl rfl rfl hsz4 ac rfl ⟨Z02 _,rfl⟩ ac (by simp[mr]) rfl (by rw[hby4];omega) aa rfl ?_|refine y3 ?_|exact y5|fail)
   refine Fin.fd 11 (.inl rfl) ?_ rfl rfl ?_ rfl rfl rfl rfl
   ·rw[Z03];rfl
   ·show fq _ _ _ _=fq _ _ _ _
    rw[Z0r];rfl
  |cons u us=>
   repeat'(first|refine Ex.fzC16 7 2 (λk=>[.int .i64 ((u::us).getD k 0)]) 1 rfl ac rfl rfl rfl rfl rfl (λ_ _=>rfl) (CU _) rfl ?_|refine y1 ?_|refine y2 ?_ ?_|refine y4 λh=>?_|refine gZ (i:=4) (g:=5) (m:=fs.length) (w:=4) (cs:=fs.flatMap mr) (foot:=[10]) (k:=1) (add:=mr ⟨i,s,u::us,bits⟩) rfl rfl (by rw[tU]) rfl rfl rfl rfl rfl rfl rfl hsz4 ac rfl ⟨Z02 _,rfl⟩ ac (by simp[mr]) rfl (by rw[hby4];omega) aa rfl ?_|refine y3 ?_|exact y5|fail)
   refine Fin.fd 11 (.inl rfl) ?_ rfl rfl ?_ rfl rfl rfl rfl
   ·rw[Z03];rfl
   ·show fq _ _ _ _=fq _ _ _ _
    rw[Z0r];rfl
 |cons y k n=>
  simp only[Fo.size] at t4 t5 t7;have hcl:=At.lt t1;have hec:=hE.get t1;have hx:=At.get t1;have hac:=t2.1.1
  have hbd:∀ j,j<p.length->0<=(p.getD j dN).int:=λj hj=>ce hI j
  simp only[dI] at t8;by_cases h19:y.op=19
  ·rw[if_pos h19] at t8
   have hop:(p.getD cur dN).op=19:=ae;have ho:=hO cur hcl;have hn:=(hNA cur hcl).2.2.2.2.1 (.inl hop);have hb1:=yf ho hop;have hb0:0<=aj p (cur+1):=ce hI _;unfold aj at hb0 hb1 t8;have wv1:IntKind.i64.wrap (p.getD (cur+1) dN).int=(p.getD (cur+1) dN).int:=aB aa aa;have wv2:IntKind.i64.wrap (bits+(p.getD (cur+1) dN).int)=bits+(p.getD (cur+1) dN).int:=aB aa aa
   repeat'(first|refine y1 ?_|refine y2 ?_ ?_|refine y4 λh=>?_|exact wv1|exact wv2|refine y3 ?_|exact y5|fail)
   refine dz (n,cur+1+k.size,E1,us,bits+(p.getD (cur+1) dN).int) ⟨t1.2.2.2,t2.2.2,⟨ae,ae⟩,ae,ae,ae,t8⟩ (by simp only[Fo.size];omega) rfl ⟨bB (congrArg nI (by rw[hec])),trivial⟩ ⟨rfl,rfl,rfl,fF rfl ⟨rfl,rfl,fF rfl trivial⟩⟩ rfl ?_ ac;unfold nY h_;generalize List.flatMap mr fs=cg;generalize List.map _ us=cu
   cases cg<;>cases cu<;>rfl
  ·rw[if_neg h19] at t8
   have h18:y.op=18:=by rcases Jb hac with h|h;exact h;exact absurd h h19
   have hop:(p.getD cur dN).op=18:=ae;have ho:=hO cur hcl;have hn:=(hNA cur hcl).2.2.2.1 (.inr (.inl hop));have hb1:=yg ho hop;have hb0:0<=aj p (cur+2):=ce hI _;have w0:0<=aj p (b-2):=ce hI _;have w1:0<=aj p (b-1):=ce hI _;have had:=Jk nt num p Eo hp hw E1 cur aa sc (.row 4 5 fs.length) (.slc none 0 (some 0)) rfl rfl;have hao:=pb nt Eo num p hp hw E1 cur aa sc;generalize bt p num E1 cur sc=A at had hao t8;obtain⟨E2,id,q,e⟩:=A;simp only at had hao t8;unfold aj at hb0 hb1 t8 w0 w1 n1 n2;have wv1:IntKind.i64.wrap (p.getD (cur+2) dN).int=(p.getD (cur+2) dN).int:=aB aa aa;have wv2:IntKind.i64.wrap (bits+(p.getD (cur+2) dN).int)=bits+(p.getD (cur+2) dN).int:=aB aa aa;have wv3:IntKind.i64.wrap (p.getD (b-2) dN).int=(p.getD (b-2) dN).int:=aB aa aa;have wv4:IntKind.i64.wrap (p.getD (b-1) dN).int=(p.getD (b-1) dN).int:=aB aa aa;have e97:nI ((b:Int)-2)=nI ((b-2:Nat):Int):=congrArg nI aa;have e107:nI ((b:Int)-1)=nI ((b-1:Nat):Int):=congrArg nI aa;by_cases he:e=0
   ·rcases hao with ⟨_,h⟩|⟨_,rfl,hA⟩
    ·grind
    subst he;have hlA:=hA.len;rw[if_neg aq] at t8;have hsz1:(Tryz.prog.types[3]).size=1:=aK;have hby1:(Tryz.prog.types[3]).bytes=8:=aK
    repeat'(first|refine y1 ?_|refine y2 ?_ ?_|refine y4 λh=>?_|refine wX (bD [0,1,2,3,4,5] had ?_)|refine RegX.oLk E1.length rfl rfl rfl aa rfl rfl rfl rfl rfl ?_|refine RegX.chunkN 9 rfl rfl ?_ (RegX.eqv 97 e97 rfl ?_)|refine RegX.chunkN 10 rfl rfl ?_ (RegX.eqv 107 e107 rfl ?_)|refine RegX.oUpd E1.length (CE (E2.getD E1.length eZ) bits (p.getD (cur+2) dN).int (p.getD (b-2) dN).int (p.getD (b-1) dN).int) rfl rfl rfl aa (ah _) rfl rfl rfl rfl ?_|refine gZ (i:=8) (g:=9) (m:=us.length) (w:=1) (cs:=us.map λz=>S.int .i64 z) (foot:=[12]) (k:=1) (add:=[.int .i64 (E1.length:Int)]) rfl rfl aq rfl rfl rfl rfl rfl rfl rfl hsz1 ac rfl ⟨Z02 _,rfl⟩ ac aq rfl (by rw[hby1];omega) aa rfl ?_|refine y3 ?_|exact y5|fail)
    have hps:=JU E2 E1.length bits (p.getD (cur+2) dN).int (p.getD (b-2) dN).int (p.getD (b-1) dN).int;have hls:= @Z18 _ E2 E1.length (CE (E2.getD E1.length eZ) bits (p.getD (cur+2) dN).int (p.getD (b-2) dN).int (p.getD (b-1) dN).int);refine fX (n,cur+1+k.size,E2.set E1.length (CE (E2.getD E1.length eZ) bits (p.getD (cur+2) dN).int (p.getD (b-2) dN).int (p.getD (b-1) dN).int),us++[(E1.length:Int)],bits+(p.getD (cur+2) dN).int) ⟨t1.2.2.2,t2.2.2,⟨ae,ae⟩,ae,ae,ae,t8⟩ (by simp only[Fo.size];omega) [0,1,2,3,4,5,6,7,13,14] rfl ?_ ?_ ?_
    ·repeat'(first|exact ah _|exact dd _|exact Z0o|exact bB (congrArg nI (by rw[hec]))|refine⟨?_,?_⟩)
    ·refine⟨?_,rfl,?_,bh rfl ⟨rfl,?_,bh ?_ trivial⟩⟩
     ·simp only[hls];rfl
     ·simp only[hps];rfl
     ·simp only[Z03];rfl
     ·simp only[Z0d];rfl
    ·unfold nY h_
     generalize List.flatMap mr fs=cg;generalize List.map _ (us++[(E1.length:Int)])=cu
     cases cg<;>cases cu<;>rfl
   ·rcases hao with ⟨rfl,_⟩|⟨h,_⟩
    ·rw[if_pos he] at t8
     subst t8
     repeat'(first|refine yA ?_|refine y2 ?_ ?_|refine y4 λh=>?_|refine wX (bD [0,1,2,3,4,5] had ?_)|exact y5|fail)
     exact Fin.f4 (.inl rfl) rfl rfl rfl rfl rfl rfl (if_neg he).symm
    all_goals grind
end
abbrev psB (g:Nat) (D:List Pth):Option Bl:=fq 99 (g+1) 3 (D.flatMap cH)
theorem Hm (ty g w:Nat) (cs:List S) (c:S) (l:List S):fq ty g w (cs++c::l)=some {cells:=cs++c::l,ty:=ty,more:=true,sym:=true,flat:=true,gh:=some (g,w)}:=by cases cs<;>rfl
theorem Hg {D:List Pth} {P:Pth} {k j:Nat} {x:S} (hk:k<D.length+1) (hx:(cH ((D++[P]).getD k z0))[j]? =some x):(D.flatMap cH++cH P)[k*3+j]? =some x/\bL x=true:=by
 have:=kh (l:=D++[P]) (by simpa using hk) hx;rw[Z0r] at this
 simpa using this
theorem kS {l:List By} (h:de l) (k:Nat):de (l.take k):=λi hi=>by
 rw[Z19] at hi;have:=h i aa;rw[Z00] at this |-;rw[Z2w,if_pos aa];exact this
theorem Id (br:Bool) (bu:Int) (bs:List By) (rr:Bool) (ru:Int) (rs:List By) (h1s:de bs) (h2s:de rs):
 FQ 52 [.agg [.bool br,.int .i64 bu,bc bs],.agg [.bool rr,.int .i64 ru,bc rs]] 0 [] (.s (tu (aS ⟨br,bu,bs⟩ ⟨rr,ru,rs⟩))) 0 []:=by
 have ha:=ga br bu bs h1s;have hv:=ga rr ru rs h2s;have hj:=tL br bu bs rr ru rs h1s h2s;have hsz:(Tryz.prog.types[99]).size=3:=aK;have hby:(Tryz.prog.types[99]).bytes=40:=aK;refine wW Tryz.func52 ?_
 cases h1:aG ⟨br,bu,bs⟩<;>rw[h1] at ha
 ·
  repeat'(first|refine y1 ?_|refine y2 ?_ ?_|refine bG ha ?_|refine dv (.inl rfl) rfl ?_ rfl|refine y3 ?_|exact y5|fail)
  simp only[aS,bR,h1,Z4f,true_or,if_true];exact VLe.s SLe.nil
 cases br
 ·
  repeat'(first|refine y1 ?_|refine y2 ?_ ?_|refine bG ha ?_|refine dv (.inl rfl) rfl ?_ rfl|refine y3 ?_|exact y5|fail)
  simp only[aS,bR,Z2c,true_or,if_true];exact VLe.s SLe.nil
 have ha1:bR ⟨true,bu,bs⟩=true:=by unfold bR;rw[h1];rfl
 cases h2:aG ⟨rr,ru,rs⟩<;>rw[h2] at hv
 ·
  repeat'(first|refine y1 ?_|refine y2 ?_ ?_|refine bG ha ?_|refine bG hv ?_|refine dv (.inl rfl) rfl ?_ rfl|refine y3 ?_|exact y5|fail)
  simp only[aS,h2,or_true,if_true];exact VLe.s SLe.nil
 obtain⟨a1,a2,a3⟩:=cT ha1;obtain⟨v1,v2,v3,v4,v5,v6⟩:=aR h2;simp only at a1 a2 a3 v1 v2 v3 v4 v5 v6;by_cases hc:rr=true\/0<ru\/rs.length≠1
 ·have hcand:aS ⟨true,bu,bs⟩ ⟨rr,ru,rs⟩=if (ax ⟨true,bu,bs⟩ ⟨rr,ru,rs⟩).2 then [(ax ⟨true,bu,bs⟩ ⟨rr,ru,rs⟩).1] else []:=by
   unfold aS;rw[if_neg (by simp[ha1,h2]),if_pos hc]
  rw[hcand];generalize ax ⟨true,bu,bs⟩ ⟨rr,ru,rs⟩=j at*;obtain⟨p,ok⟩:=j;cases rr
  all_goals
   first|(have hc':0<ru\/rs.length≠1:=by simpa using hc)|skip
   cases ok
   ·
    repeat'(first|refine y1 ?_|refine y2 ?_ ?_|refine y4 λh=>?_|refine bG ha ?_|refine bG hv ?_|refine an hj ?_|refine dv (.inl rfl) rfl ?_ rfl|refine y3 ?_|exact y5|fail)
    all_goals exact VLe.s SLe.nil
   ·
    repeat'(first|refine y1 ?_|refine y2 ?_ ?_|refine y4 λh=>?_|refine bG ha ?_|refine bG hv ?_|refine an hj ?_|refine Bn [.app 1 (cH p)] rfl rfl ?_ rfl rfl rfl ?_|refine Ex.fz 4 (λk=>cH ([p].getD k z0)) 3 rfl rfl rfl rfl (λk _=>rfl) (tm p) rfl rfl ?_|refine dv (.inl rfl) rfl ?_ rfl|refine y3 ?_|exact y5|fail)
    all_goals first
     |exact ah _
     |(rw[hsz];exact Z02 _)
 ·have hr:rr=false:=by cases rr<;>simp_all
  have hu:ru=0:=by
   have: ¬0<ru:=λh=>hc (.inr (.inl h))
   omega
  have hl:rs.length=1:=Z4c.1 λh=>hc (.inr (.inr h))
  obtain⟨s0,rfl⟩:∃ s0,rs=[s0]:=Z5o.1 hl;subst hr hu a2
  have hcand:aS ⟨true,0,bs⟩ ⟨false,0,[s0]⟩=cY bs s0 bs.length:=by
   unfold aS;rw[if_neg (by simp[ha1,h2]),if_neg aq];rfl
  rw[hcand]
  repeat'(first|refine yA ?_|refine y2 ?_ ?_|refine y4 λh=>?_|refine bG ha ?_|refine bG hv ?_|exact y5|fail)
  refine gH 5 (.s (.row 2 3 0)) (VLe.s SLe.nilrow) rfl (Ex.upN (n':=4) aa ?_)
  refine cy (σ:=Nat×List Pth) (λx=>[(5,.s (.row 2 3 x.2.length))]) (λx=>[(0,some {cells:=[.bool true,.int .i64 0,bc (bs.take x.1)],ty:=99}),(1,some {cells:=[.bool false,.int .i64 0,bc [s0]],ty:=99}),(2,psB 2 (x.2))])
   (λx=>x.1<=bs.length/\x.2++cY bs s0 x.1=cY bs s0 bs.length) (λx=>x.1) (bs.length,[]) rfl (λ_=>rfl) ⟨Z02 _,aq⟩ aP ⟨?_,rfl,trivial⟩ ?_
  ·simp only[Z1v];rfl
  ·rintro⟨k,D⟩ ⟨i1,i2⟩
   simp only at i1 i2 |-;have hjk:=tL true 0 (bs.take k) false 0 [s0] (kS h1s k) h2s;have hpk:=rI true 0 (bs.take k) (kS h1s k);rw[rP ha1 h2 i1] at hjk;rw[nR ha1 i1] at hpk
   have hlen:D.length<=33:=by
    have e1:=fW bs s0 bs.length;rw[<-i2,Z03] at e1;omega
   cases k with
   |zero=>
    rw[if_neg aa] at hjk;rw[if_pos rfl] at hpk;simp only[cY] at i2
    repeat'(first|refine yA ?_|refine y2 ?_ ?_|refine an hjk ?_|exact y5|fail)
    refine gZ (i:=2) (g:=3) (m:=D.length) (w:=3) (cs:=D.flatMap cH) (foot:=[5]) (k:=1) (add:=cH (Pth.mk true 0 (bs.take 0++[s0]))) rfl rfl (by rw[ek]) rfl rfl rfl rfl rfl rfl rfl hsz ac rfl ⟨Z5a hsz.symm,rfl⟩ ac (by simp[cH]) rfl (by rw[hby];omega) aa rfl ?_
    repeat'(first|refine y1 ?_|refine y2 ?_ ?_|refine an hpk ?_|refine Ex.fz 4 (λk=>cH ((D++[Pth.mk true 0 (bs.take 0++[s0])]).getD k z0)) 3 rfl (Hm _ _ _ _ _ _) rfl rfl (λk _=>rfl) (λk j x hk hx=>Hg hk hx) rfl rfl ?_|refine dv (.inl rfl) rfl ?_ rfl|refine y3 ?_|exact y5|fail)
    rw[<-i2];unfold tu;rw[Z03];exact ah _
   |succ k=>
    rw[if_neg aa] at hpk;simp only[cY] at i2;by_cases h32:32<k+2
    ·rw[if_pos h32] at i2
     rw[if_pos aa] at hjk
     repeat'(first|refine yA ?_|refine y2 ?_ ?_|refine an hjk ?_|refine an hpk ?_|exact y5|fail)
     refine fX (k,D) ⟨by simp only;omega,i2⟩ (by simp only;omega) [0,1,2,3] rfl ?_ ?_ ?_
     ·repeat'(first|exact ah _|exact dd _|exact Z0o|refine⟨?_,?_⟩)
     ·exact⟨rfl,rfl,bh rfl trivial⟩
     ·unfold psB;generalize List.flatMap _ _=cg;cases cg<;>rfl
    ·rw[if_neg h32] at i2
     rw[if_neg aa] at hjk
     repeat'(first|refine yA ?_|refine y2 ?_ ?_|refine an hjk ?_|exact y5|fail)
     refine gZ (i:=2) (g:=3) (m:=D.length) (w:=3) (cs:=D.flatMap cH) (foot:=[5]) (k:=1) (add:=cH (Pth.mk true 0 (bs.take (k+1)++[s0]))) rfl rfl (by rw[ek]) rfl rfl rfl rfl rfl rfl rfl hsz ac rfl ⟨Z5a hsz.symm,rfl⟩ ac (by simp[cH]) rfl (by rw[hby];omega) aa rfl ?_
     repeat'(first|refine yA ?_|refine y2 ?_ ?_|refine an hpk ?_|exact y5|fail)
     refine fX (k,D++[Pth.mk true 0 (bs.take (k+1)++[s0])]) ⟨by simp only;omega,by simpa using i2⟩ (by simp only;omega) [0,1,6,7] rfl ?_ ?_ ?_
     ·repeat'(first|exact ah _|exact dd _|exact Z0o|(refine bB (congrArg V.s (?_:S.row 6 7 _=S.row 6 7 _));simp;done)|refine⟨?_,?_⟩)
     ·refine⟨rfl,rfl,bh ?_ trivial⟩
      rw[Z0r];rfl
     ·unfold psB;generalize List.flatMap _ _=cg;cases cg<;>rfl
theorem A0 (b r:Pth) (h1:de b.segs) (h2:de r.segs):FQ 52 [hY b,hY r] 0 [] (.s (tu (aS b r))) 0 []:=Id b.root b.up b.segs r.root r.up r.segs h1 h2
