import Derived.Test.YtegjgpldfgjoiaaGreatDoorCnB21
import Derived.Test.YtegjgpldfgjoiaaGreatDoorCnB15
import Derived.Test.YtegjgpldfgjoiaaGreatDoorCnB16
import Derived.Test.YtegjgpldfgjoiaaGreatDoorCnB20
set_option linter.unusedSimpArgs false
set_option linter.unusedVariables false
namespace Go.Proofs.YtegjgpldfgjoiaaGreatDoor
open Go Ab
set_option maxRecDepth 100000
set_option maxHeartbeats 1000000
abbrev nS (p:List Nd):S:=.frz (fun k=>ndC (p.getD k dN)) 4 p.length
def bg (K:List (List Nd)):S:=.frz (fun k=>[nS (K.getD k [])]) 1 K.length
def ndS:List Nd->S
 |_::_::l=> .sla 0 1 (l.length+2)
 |_=> .slc (some (0,0)) 1 (some 1)
def ndQ:List Nd->Bl
 |x::y::l=>{cells:=(x::y::l).flatMap ndC,ty:=49,more:=true,sym:=true,flat:=true,gh:=some (1,4)}
 |x::[]=>{cells:=ndC x,ty:=49,flat:=true}
 |[]=>{cells:=[],ty:=49}
theorem bf:∀ G:List Nd,(G.flatMap ndC).length=G.length*4
 |[]=>rfl
 |x::G=>by rw[List.flatMap_cons,List.length_append,bf G];simp only[List.length_cons];simp[ndC];omega
theorem an (G:List Nd):bQ (fun k=>ndC (G.getD k dN)) G.length=G.flatMap ndC:=by
 rw[lW]
theorem fm (bl:Bl) (r:List Nd):aR bl (r.flatMap ndC)=true:=by
 have h1:∀ r:List Nd,(r.flatMap ndC).all bD=true:=by
  intro r
  induction r with
  |nil=>rfl
  |cons x r ih=>rw[List.flatMap_cons,List.all_append,ih];rfl
 have h2:∀ r:List Nd,(r.flatMap ndC).all nJ=true:=by
  intro r
  induction r with
  |nil=>rfl
  |cons x r ih=>rw[List.flatMap_cons,List.all_append,ih];rfl
 unfold aR;split
 ·exact h1 r
 ·exact h2 r
theorem gK {G:List Nd} {k j:Nat} {x:S} (hk:k<G.length) (hx:(ndC (G.getD k dN))[j]? =some x):(G.flatMap ndC)[k*4+j]? =some x/\aY x=true:=by
 induction G generalizing k with
 |nil=>simp at hk
 |cons y G ih=>
  cases k with
  |zero=>
   rw[List.flatMap_cons]
   match j,hx with
   |0,hx=>cases hx;exact⟨rfl,rfl⟩
   |1,hx=>cases hx;exact⟨rfl,rfl⟩
   |2,hx=>cases hx;exact⟨rfl,rfl⟩
   |3,hx=>cases hx;exact⟨rfl,rfl⟩
   |_+4,hx=>cases hx
  |succ k=>
   have:=ih (k:=k) (by simpa using hk) (by simpa using hx);rw[List.flatMap_cons,show (k+1)*4+j=(k*4+j)+4 by omega];exact this
theorem E_ {x:Nd} {k j:Nat} {s:S} (hk:k<1) (hx:(ndC ([x].getD k dN))[j]? =some s):(ndC x)[k*4+j]? =some s/\aY s=true:=by
 have:=gK (G:=[x]) (k:=k) (j:=j) (x:=s) hk hx
 simpa using this
theorem E8 (op n:Int) (s:By) (K:List (List Nd)) (hK:∀ r∈K,r≠[]) (hn:(K.flatten).length<=1000000000000) (hk:K.length<=4096):
 FC Tryz.prog 103 [nI op,.s (.int .u64 n),sV s,.s (bg K)] 0 [] (ae (⟨op,n,s,K.length⟩::K.flatten)) 0 []:=by
 have hsz:(Tryz.prog.types[49]).size=4:=by kernel_rfl
 have hby:(Tryz.prog.types[49]).bytes=40:=by kernel_rfl
 unfold bg;generalize hT:(⟨op,n,s,K.length⟩::K.flatten:List Nd)=T;refine FC.walk (by kernel_rfl) Tryz.func103 rfl rfl ?_
 repeat'(first|exact y0|refine y1 ?_|refine y2 ?_ ?_|(refine y8 ?_ ?_<;>intro h<;>try exact y6)|refine y3 ?_|refine y7 ?_ ?_|refine y4 ?_|(refine y9 ?_ ?_<;>intro h)|exact y5|fail)
 refine Ex.flat 0 rfl rfl rfl rfl (Ex.set 17 .any (VLe.any _) rfl (Ex.upN (n':=2) (by omega) ?_));refine Ex.inv (σ:=Nat×List Nd) (fun q=>[(10,nI q.1),(9,.s (ndS q.2))]) (fun q=>[(0,some (ndQ q.2))]) (fun q=>q.1<=K.length/\q.2++(K.drop q.1).flatten=T/\q.2≠[]) (fun q=>K.length-q.1) (0,[⟨op,n,s,K.length⟩]) rfl (fun _=>rfl) ?_ ?_ ?_ ?_
 ·exact⟨Nat.zero_le _,by simpa using hT,by simp⟩
 ·exact⟨VLe.refl _,VLe.refl _,trivial⟩
 ·exact⟨rfl,trivial⟩
 ·rintro⟨j,Q⟩ ⟨h1,h2,h3⟩
  simp only at h1 h2 h3 |-
  have hTl:T.length<=1000000000001:=by rw[<-hT];simp only[List.length_cons];omega
  rcases Nat.lt_or_ge j K.length with hj|hj
  ·have hd:K.drop j=K.getD j []::K.drop (j+1):=by
    rw[List.drop_eq_getElem_cons hj,List.getD_eq_getElem?_getD,List.getElem?_eq_getElem hj];rfl
   have hr:K.getD j []≠[]:=hK _ (by rw[List.getD_eq_getElem?_getD,List.getElem?_eq_getElem hj];exact List.getElem_mem hj);rw[hd,List.flatten_cons,<-List.append_assoc] at h2;have hrl:0<(K.getD j []).length:=List.length_pos_iff.2 hr
   have hlen:Q.length+(K.getD j []).length<=1000000000001:=by
    rw[<-h2] at hTl;simp only[List.length_append] at hTl;omega
   match Q,h3 with
   |[x],_=>
    repeat'(first|exact y0|refine y1 ?_|refine y2 ?_ ?_|(refine y8 ?_ ?_<;>intro h<;>try exact y6)|refine y3 ?_|refine y7 ?_ ?_|refine y4 ?_|(refine y9 ?_ ?_<;>intro h)|exact y5|fail)
    generalize K.getD j []=r at*;obtain⟨z,r,rfl⟩:=List.exists_cons_of_ne_nil hr;simp only[List.length_cons,List.length_nil] at hlen;refine RegX.app [.app (1+(r.length+1)) (([x]++z::r).flatMap ndC)] rfl rfl ?_ rfl rfl rfl ?_
    ·refine⟨?_,trivial,rfl,rfl,?_,?_,(fun h=>by simp),?_,?_⟩
     ·rw[hsz];rfl
     ·rw[hsz,an];rfl
     ·rw[an];exact fm _ _
     ·rw[hby];omega
     ·omega
    repeat'(first|exact y0|refine y1 ?_|refine y2 ?_ ?_|(refine y8 ?_ ?_<;>intro h<;>try exact y6)|refine y3 ?_|refine y7 ?_ ?_|refine y4 ?_|(refine y9 ?_ ?_<;>intro h)|exact y5|fail)
    all_goals try omega
    refine LoopR.move (j+1,[x]++z::r) ⟨hj,h2,by simp⟩ (by simp only;omega) [2,3] rfl ?_ ?_ rfl
    ·repeat' (first|exact VLe.refl _|exact VLe.any _|exact True.intro|(refine VLe.of_eq (congrArg V.s (?_:S.sla 2 3 _=S.sla 2 3 _));simp;omega)|refine⟨?_,?_⟩)
    ·exact⟨rfl,trivial⟩
   |x::y::l,_=>
    repeat'(first|exact y0|refine y1 ?_|refine y2 ?_ ?_|(refine y8 ?_ ?_<;>intro h<;>try exact y6)|refine y3 ?_|refine y7 ?_ ?_|refine y4 ?_|(refine y9 ?_ ?_<;>intro h)|exact y5|fail)
    generalize K.getD j []=r at*;obtain⟨z,r,rfl⟩:=List.exists_cons_of_ne_nil hr;simp only[List.length_cons,List.length_nil] at hlen;refine RegX.app [.app ((l.length+2)+(r.length+1)) (((x::y::l)++z::r).flatMap ndC)] rfl rfl ?_ rfl rfl rfl ?_
    ·refine⟨?_,trivial,rfl,rfl,?_,?_,(fun h=>by simp),?_,?_⟩
     ·rw[hsz];show (l.length+2)*4<=((x::y::l).flatMap ndC).length;rw[bf];simp
     ·rw[hsz,an];show _=List.take ((l.length+2)*4) ((x::y::l).flatMap ndC)++_;rw[List.take_of_length_le (by rw[bf];simp),List.flatMap_append]
     ·rw[an];exact fm _ _
     ·rw[hby];omega
     ·omega
    repeat'(first|exact y0|refine y1 ?_|refine y2 ?_ ?_|(refine y8 ?_ ?_<;>intro h<;>try exact y6)|refine y3 ?_|refine y7 ?_ ?_|refine y4 ?_|(refine y9 ?_ ?_<;>intro h)|exact y5|fail)
    all_goals try omega
    refine LoopR.move (j+1,(x::y::l)++z::r) ⟨hj,h2,by simp⟩ (by simp only;omega) [2,3] rfl ?_ ?_ rfl
    ·repeat' (first|exact VLe.refl _|exact VLe.any _|exact True.intro|(refine VLe.of_eq (congrArg V.s (?_:S.sla 2 3 _=S.sla 2 3 _));simp;omega)|refine⟨?_,?_⟩)
    ·exact⟨rfl,trivial⟩
  ·have hd:K.drop j=[]:=List.drop_eq_nil_of_le hj
   rw[hd] at h2;simp only[List.flatten_nil,List.append_nil] at h2;subst h2
   match Q,h3 with
   |[x],_=>
    repeat'(first|exact y0|refine y1 ?_|refine y2 ?_ ?_|(refine y8 ?_ ?_<;>intro h<;>try exact y6)|refine Ex.fz 8 (fun k=>ndC ([x].getD k dN)) 4 rfl rfl rfl rfl (fun _ _=>rfl) (fun k j s hk hs=>E_ hk hs) rfl rfl ?_|refine Fin.le (.inl rfl) rfl (VLe.refl _) rfl|refine y3 ?_|refine y7 ?_ ?_|refine y4 ?_|(refine y9 ?_ ?_<;>intro h)|exact y5|fail)
    all_goals try omega
   |x::y::l,_=>
    repeat'(first|exact y0|refine y1 ?_|refine y2 ?_ ?_|(refine y8 ?_ ?_<;>intro h<;>try exact y6)|refine Ex.fz 8 (fun k=>ndC ((x::y::l).getD k dN)) 4 rfl rfl rfl rfl (fun _ _=>rfl) (fun k j s hk hs=>gK hk hs) rfl rfl ?_|refine Fin.le (.inl rfl) rfl (VLe.refl _) rfl|refine y3 ?_|refine y7 ?_ ?_|refine y4 ?_|(refine y9 ?_ ?_<;>intro h)|exact y5|fail)
    all_goals try omega
end Go.Proofs.YtegjgpldfgjoiaaGreatDoor
namespace Go.Proofs.YtegjgpldfgjoiaaGreatDoor
namespace Ab
open Go
theorem dE {α:Type} (g:α->List S) (w:Nat) (d:α) (hw:∀ a,(g a).length=w):∀ {l:List α} {k j:Nat} {x:S},k<l.length->(g (l.getD k d))[j]? =some x->(l.flatMap g)[k*w+j]? =some x
 |[],k,j,x,hk,_=>by simp at hk
 |a::l,0,j,x,hk,hx=>by
  have hj:j<(g a).length:=by
   rcases Nat.lt_or_ge j (g a).length with h|h
   ·exact h
   ·exfalso;simp only[List.getD_cons_zero] at hx;rw[List.getElem?_eq_none h] at hx;cases hx
  rw[Nat.zero_mul,Nat.zero_add,List.flatMap_cons,List.getElem?_append_left hj];exact hx
 |a::l,k+1,j,x,hk,hx=>by
  have:=dE g w d hw (l:=l) (k:=k) (j:=j) (x:=x) (by simpa using hk) hx;rw[List.flatMap_cons,List.getElem?_append_right (by rw[hw,Nat.succ_mul];omega),hw];rw[show (k+1)*w+j-w=k*w+j by rw[Nat.succ_mul];omega];exact this
theorem SC.froz {P:Program} {f:FuncId} {args:List V} {v:V} {n':Nat} {L':Hp} (h:SC P f args 0 [] v n' L') (get:Nat->List S) (sz:Nat) {i N:Nat} {bl:Bl} (hl:lk L' i=some bl) (hro:bl.ro=false) (hk:bl.kind=none)
 (hg:∀ k,k<N->(get k).length=sz) (hc:∀ k j x,k<N->(get k)[j]? =some x->bl.cells[k*sz+j]? =some x/\aY x=true)
 {v':V} (hv:∀ (φ ψ:Ph) (x:Value),(∀ u y,ct u=some (i,N)->Vr φ u y->Vr ψ (.s (.frz get sz N)) y)->Vr φ v x->Vr ψ v' x):SC P f args 0 [] v' 0 []:=by
 intro φ xs w hx hgd hf;refine (h φ xs w hx hgd hf).mono ?_;rintro e w' ⟨φ',x,rfl,hvx,hg',hn,st,_,_⟩;obtain⟨φ2,e1,hle,hz,hg2,hsl⟩:=kD hg' get sz (i:=i) (N:=N) hl hro hk hg hc;refine⟨⟨φ.f,φ2.z⟩,x,rfl,hv φ' ⟨φ.f,φ2.z⟩ x (fun u y hu hy=>?_) hvx,⟨fun j b hj=>(by cases hj),fun j k b b' _ _ hj=>(by cases hj),fun b l hb=>⟨(hg2.fz b l hb).1,fun hw=>?_⟩,hg2.gz⟩,hf,⟨st.os,st.tape,st.output,st.size,st.keep,fun j b _ hj=>(by cases hj),fun b l hb=>hle.z b l (st.zle b l hb),fun b l hb=>?_⟩,Nat.le_refl _,fun _ _=>rfl⟩
 ·exact hsl u y hu hy
 ·obtain⟨j,b',c,hj,_⟩:=hw;cases hj
 ·rcases hz b l hb with q|⟨j,b',c,hj,hc',rfl,hr⟩
  ·exact st.zfr b l q
  ·rcases Nat.lt_or_ge c.1 w.heap.size with hlt|hge
   ·obtain⟨k,b2,c2,hk2,_⟩:=st.fresh j b' c hj hc' hlt
    cases hk2
   ·exact .inr (.inl hge)
section
variable {P:Program} {b:Nat} {env:List V} {n:Nat} {L:Hp} {R:Post} {c:Code}
theorem Ex.fzR {α:Type} (t:Nat) (g:α->List S) (w:Nat) (d:α) (l:List α) {i gn ty:Nat} (ht:env.getD t .undef=.s (.row i gn l.length)) (hl:lk L i=opB ty gn w (l.flatMap g)) (hw:∀ a,(g a).length=w) (hp:∀ (a:α) (j:Nat) (x:S),(g a)[j]? =some x->aY x=true) (hw0:0<w)
 {env':List V} (he:env.set t (.s (.frz (fun k=>g (l.getD k d)) w l.length))=env') {L':Hp} (hL:put L i none=L') (k:Ex P b c env' n L' R):Ex P b c env n L R:=by
 have sub:Sub L' L:=by
  intro j bj hj;rw[<-hL,ax] at hj;split at hj
  ·cases hj
  ·exact hj
 cases l with
 |nil=>exact Ex.set t _ (by rw[ht];exact VLe.s SLe.row0) he (Ex.sub sub k)
 |cons a l=>
  have hne:(a::l).flatMap g≠[]:=by
   rw[List.flatMap_cons];have:=hw a
   cases hga:g a with
   |nil=>rw[hga] at this;simp at this;omega
   |cons x xs=>simp
  obtain⟨x,xs,hx⟩:=List.exists_cons_of_ne_nil hne;rw[hx] at hl;have hl:lk L i=some {cells:=x::xs,ty:=ty,more:=true,sym:=true,flat:=true,gh:=some (gn,w)}:=hl;refine Ex.fz t _ w (i:=i) (N:=(a::l).length) (by rw[ht];rfl) hl rfl rfl (fun k _=>hw _) (fun k j y hk hy=>⟨?_,hp _ _ _ hy⟩) he hL k;show (x::xs)[k*w+j]? =_;rw[<-hx];exact dE g w d hw hk hy
end
structure Hold (p:Prop):Prop where
 k:p
end Ab
end Go.Proofs.YtegjgpldfgjoiaaGreatDoor
namespace Go.Proofs.YtegjgpldfgjoiaaGreatDoor
open Go Ab
set_option maxRecDepth 100000
set_option maxHeartbeats 2000000
abbrev ntC (l:List Nat):List S:=l.map fun (j:Nat)=>S.int .i64 (j:Int)
abbrev ntB (l:List Nat):Bl:={cells:=ntC l,ty:=3,sym:=true,flat:=true}
theorem yE (l:List Nat) {n:Nat} (h:n<l.length):(ntC l)[n]? =some (.int .i64 ((l.getD n 0:Nat):Int)):=by
 rw[List.getElem?_map,List.getElem?_eq_getElem h,List.getD_eq_getElem?_getD,List.getElem?_eq_getElem h];rfl
theorem E7 (n:Nat):ntC (List.replicate n 0)=List.replicate n (.int .i64 0):=by simp[ntC]
theorem tu (p:List Nd) (hp:p.length<=2048) (h0:0<p.length) (t:Fo) {cs:List (Bool×Int)} (ha:t.At p 0) (hv:t.V cs) (hs:t.size=p.length):
 FC Tryz.prog 68 [ae p] 0 [] (.s (.frz (fun k=>[.int .i64 (((aH t).getD k 0:Nat):Int)]) 1 (aH t).length)) 0 []:=by
 have hsz:(Tryz.prog.types[3]).size=1:=by kernel_rfl
 have hby:(Tryz.prog.types[3]).bytes=8:=by kernel_rfl
 have hel:(aH t).length=p.length:=by rw[aH,List.length_map,List.length_range,hs]
 refine FC.walk (by kernel_rfl) Tryz.func68 rfl rfl ?_
 repeat'(first|exact y0|refine y1 ?_|refine y2 ?_ ?_|(refine y8 ?_ ?_<;>intro h<;>try exact y6)|refine y3 ?_|refine y7 ?_ ?_|refine y4 ?_|(refine y9 ?_ ?_<;>intro h)|exact y5|fail)
 refine RegX.opA [.idx p.length,.idx p.length] rfl rfl ⟨rfl,rfl,Nat.le_refl _,?_,by omega⟩ ?_
 ·rw[hby];omega
 repeat'(first|exact y0|refine y1 ?_|refine y2 ?_ ?_|(refine y8 ?_ ?_<;>intro h<;>try exact y6)|refine y3 ?_|refine y7 ?_ ?_|refine y4 ?_|(refine y9 ?_ ?_<;>intro h)|exact y5|fail)
 refine Ex.inv (σ:=Nat) (fun i=>[(4,.s (.int .i64 ((i:Int)-1)))]) (fun i=>[(0,some (ntB (ed t i)))]) (fun i=>i<=p.length) (fun i=>i) p.length rfl (fun _=>rfl) (Nat.le_refl _) ⟨VLe.refl _,trivial⟩ ⟨by rw[<-hs,AF,hs,ntB,E7];rfl,trivial⟩ ?_;intro i hi
 cases i with
 |zero=>
  repeat'(first|exact y0|refine y1 ?_|refine y2 ?_ ?_|(refine y8 ?_ ?_<;>intro h<;>try exact y6)|refine Ex.fz 2 (fun k=>[.int .i64 (((aH t).getD k 0:Nat):Int)]) 1 rfl rfl rfl rfl (fun _ _=>rfl) ?_ rfl rfl ?_|refine Fin.le (.inl rfl) rfl (VLe.of_eq (by show _=V.s (.frz _ 1 (aH t).length);rw[hel];rfl)) rfl|refine y3 ?_|refine y7 ?_ ?_|refine y4 ?_|(refine y9 ?_ ?_<;>intro h)|exact y5|fail)
  intro k j x hk hx
  cases j with
  |succ j=>simp at hx
  |zero=>
   simp only[List.getElem?_cons_zero,Option.some.injEq] at hx;subst hx;rw[wT];refine⟨?_,rfl⟩;rw[Nat.mul_one,Nat.add_zero];exact yE _ (by rw[aH,List.length_map,List.length_range,hs];exact hk)
 |succ i=>
  refine Ex.set 4 (nI i) (VLe.of_eq (congrArg nI (by push_cast;omega))) rfl ?_;obtain⟨sl,k1,k2⟩:=cY (i:=i) ha hv (Nat.zero_le i) (by omega)
  have hkid:(p.getD i dN).kids=(((t.kid 0 i).starts (i+1)).length:Nat):=by rw[bX];exact k1.2.1
  have hch:=At.chain k1.2.2.1
  have hcn:((t.kid 0 i).starts (i+1)).length<=2048:=by
   rw[bX];have h1:=Fo.cnt_le (t.kid 0 i);have h2:=At.size_le (Nat.le_of_lt (At.lt k1)) k1;simp only[Fo.size] at h2;omega
  have hul:=AD t (i+1);generalize hcs:(t.kid 0 i).starts (i+1)=st at*
  repeat'(first|exact y0|refine y1 ?_|refine y2 ?_ ?_|(refine y8 ?_ ?_<;>intro h<;>try exact y6)|refine y3 ?_|refine y7 ?_ ?_|refine y4 ?_|(refine y9 ?_ ?_<;>intro h)|exact y5|fail)
  all_goals try omega
  rw[hkid];refine Ex.inv (σ:=List Nat×Nat×Nat) (fun q=>[(5,nI q.2.1),(23,nI q.2.2)]) (fun q=>[(0,some (ntB (ed t (i+1))))]) (fun q=>Chain p (i+1+(t.kid 0 i).size) q.2.1 q.1/\q.2.2+q.1.length=st.length/\i+1<=q.2.1) (fun q=>q.1.length) (st,i+1,0) rfl (fun _=>rfl) ⟨hch,by simp only;omega,Nat.le_refl _⟩ ⟨VLe.refl _,VLe.refl _,trivial⟩ ⟨rfl,trivial⟩ ?_;rintro⟨rest,cur,c⟩ ⟨c1,c2,c3⟩;simp only at c1 c2 c3 |-
  cases c1 with
  |nil=>
   simp only[List.length_nil] at c2;have e6:=AC (t:=t) (i:=i) (by omega)
   repeat'(first|exact y0|refine y1 ?_|refine y2 ?_ ?_|(refine y8 ?_ ?_<;>intro h<;>try exact y6)|refine RegX.sto [.cells (ntC (ed t i))] rfl rfl ⟨?_,?_⟩ rfl ?_|refine y3 ?_|refine y7 ?_ ?_|refine y4 ?_|(refine y9 ?_ ?_<;>intro h)|exact y5|fail)
   all_goals try first
    |omega
    |(show dv 0 (cj i (Tryz.prog.types[3]).size)+1<=(ntC (ed t (i+1))).length;rw[hsz,aV,aX,List.length_map,hul];omega)
    |(show _=(ntC (ed t (i+1))).set (dv 0 (cj i (Tryz.prog.types[3]).size)) _;rw[hsz,aV,aX,Nat.zero_add,Nat.mul_one,<-e6];exact List.map_set)
   exact LoopR.same i (by omega) (by omega) rfl ⟨VLe.refl _,trivial⟩ ⟨rfl,trivial⟩ rfl rfl (by decide)
  | @cons _ e l he r=>
    simp only[List.length_cons] at c2
    have hlt:cur<p.length:=by cases he with|step h _ _ _=>exact h
    obtain⟨sl2,m1,m2⟩:=cY (i:=cur) ha hv (Nat.zero_le cur) (by omega)
    have hee:(ed t (i+1)).getD cur 0=e:=by rw[AE (by omega) c3];exact (At.ends1 m1).uniq he
    have hle:=he.le.1
    repeat'(first|exact y0|refine y1 ?_|refine y2 ?_ ?_|(refine y8 ?_ ?_<;>intro h<;>try exact y6)|refine RegX.ldS [.val (nI ((ed t (i+1)).getD cur 0:Nat))] rfl rfl ?_ rfl ?_|refine y3 ?_|refine y7 ?_ ?_|refine y4 ?_|(refine y9 ?_ ?_<;>intro h)|exact y5|fail)
    all_goals try first
     |omega
     |(show (match (ntC (ed t (i+1)))[dv 0 (cj cur (Tryz.prog.types[3]).size)]? with|some x=>some (V.s x)|none=>none)=_;rw[hsz,aV,aX,Nat.zero_add,Nat.mul_one,yE _ (by omega)])
    rw[hee];exact LoopR.same (l,e,c+1) ⟨r,by simp only;omega,by simp only;omega⟩ (by simp) rfl ⟨VLe.refl _,VLe.refl _,trivial⟩ ⟨rfl,trivial⟩ rfl rfl (by decide)
theorem rD:FC Tryz.prog 68 [ae []] 0 [] (.s (.frz (fun k=>[.int .i64 (((aH Fo.nil).getD k 0:Nat):Int)]) 1 (aH Fo.nil).length)) 0 []:=by
 refine FC.walk (by kernel_rfl) Tryz.func68 rfl rfl ?_
 repeat'(first|exact y0|refine y1 ?_|refine y2 ?_ ?_|(refine y8 ?_ ?_<;>intro h<;>try exact y6)|refine y3 ?_|refine y7 ?_ ?_|refine y4 ?_|(refine y9 ?_ ?_<;>intro h)|exact y5|fail)
 refine RegX.opA [.idx 0,.idx 0] rfl rfl ⟨rfl,rfl,Nat.le_refl _,by decide,by decide⟩ ?_
 repeat'(first|exact y0|refine y1 ?_|refine y2 ?_ ?_|(refine y8 ?_ ?_<;>intro h<;>try exact y6)|refine y3 ?_|refine y7 ?_ ?_|refine y4 ?_|(refine y9 ?_ ?_<;>intro h)|exact y5|fail)
 refine Ex.inv (σ:=Unit) (fun i=>[(4,.s (.int .i64 (-1)))]) (fun i=>[(0,some (ntB []))]) (fun i=>True) (fun i=>0) () rfl (fun _=>rfl) trivial ⟨VLe.refl _,trivial⟩ ⟨rfl,trivial⟩ ?_;intro i hi
 repeat'(first|exact y0|refine y1 ?_|refine y2 ?_ ?_|(refine y8 ?_ ?_<;>intro h<;>try exact y6)|refine Ex.fz 2 (fun k=>[.int .i64 (((aH Fo.nil).getD k 0:Nat):Int)]) 1 rfl rfl rfl rfl (fun _ _=>rfl) ?_ rfl rfl ?_|refine Fin.le (.inl rfl) rfl (VLe.refl _) rfl|refine y3 ?_|refine y7 ?_ ?_|refine y4 ?_|(refine y9 ?_ ?_<;>intro h)|exact y5|fail)
theorem w7:SC Tryz.prog 67 [.s (.slc none 0 (some 0))] 0 [] (ae []) 0 []:=by
 refine (FC.walk (v:=ae []) (by kernel_rfl) Tryz.func67 rfl rfl ?_).2
 repeat'(first|exact y0|refine y1 ?_|refine y2 ?_ ?_|(refine y8 ?_ ?_<;>intro h<;>try exact y6)|refine BrG.tt ?_|refine Fin.le (.inl rfl) rfl ?_ rfl|refine y3 ?_|refine y7 ?_ ?_|refine y4 ?_|(refine y9 ?_ ?_<;>intro h)|exact y5|fail)
 exact VLe.s SLe.nil
theorem wZ:SC Tryz.prog 67 [.s .emq] 0 [] (ae []) 0 []:=by
 refine (FC.walk (v:=ae []) (by kernel_rfl) Tryz.func67 rfl rfl ?_).2
 repeat'(first|exact y0|refine y1 ?_|refine y2 ?_ ?_|(refine y8 ?_ ?_<;>intro h<;>try exact y6)|refine RegX.atCmp (CmpG.nn false trivial rfl (.inl ⟨rfl,rfl⟩) rfl rfl ?_)|refine y3 ?_|refine y7 ?_ ?_|refine y4 ?_|(refine y9 ?_ ?_<;>intro h)|exact y5|fail)
 refine RegX.opA [.app 0 []] rfl rfl ⟨rfl,rfl,rfl,rfl,rfl,rfl,(fun h=>nomatch h),by rw[Nat.zero_mul];decide,by decide⟩ ?_
 repeat'(first|exact y0|refine y1 ?_|refine y2 ?_ ?_|(refine y8 ?_ ?_<;>intro h<;>try exact y6)|refine Ex.set 2 (ae []) (VLe.s (fun φ x h=>SLe.emqfrz φ x (SLe.slaemq φ x h))) rfl ?_|refine Fin.le (.inl rfl) rfl (VLe.refl _) rfl|refine y3 ?_|refine y7 ?_ ?_|refine y4 ?_|(refine y9 ?_ ?_<;>intro h)|exact y5|fail)
theorem l9 (p:List Nd) (hp:p.length<=2000000000):FC Tryz.prog 67 [ae p] 0 [] (ae p) 0 []:=by
 cases p with
 |nil=>exact⟨by kernel_rfl,SC.split2 (pre:=[]) (post:=[]) (fun φ x h=>ik h) w7 wZ⟩
 |cons s t=>
  have hnp:((s::t).flatMap ndC).all bD=true:=fm {cells:=[],ty:=0,flat:=true} (s::t);refine FC.walk (by kernel_rfl) Tryz.func67 rfl rfl ?_
  repeat'(first|exact y0|refine y1 ?_|refine y2 ?_ ?_|(refine y8 ?_ ?_<;>intro h<;>try exact y6)|refine RegX.atCmp (CmpG.nn false (Nat.succ_pos _) rfl (.inl ⟨rfl,rfl⟩) rfl rfl ?_)|refine y3 ?_|refine y7 ?_ ?_|refine y4 ?_|(refine y9 ?_ ?_<;>intro h)|exact y5|fail)
  refine RegX.opA [.app (s::t).length ((s::t).flatMap ndC)] rfl rfl ⟨rfl,trivial,rfl,by rw[Nat.zero_add],?_,?_,(fun h=>nomatch h),?_,by omega⟩ ?_
  ·rw[an,Nat.zero_mul];rfl
  ·rw[an];exact fm _ _
  ·rw[show (Tryz.prog.types[49]).bytes=40 by kernel_rfl];omega
  repeat'(first|exact y0|refine y1 ?_|refine y2 ?_ ?_|(refine y8 ?_ ?_<;>intro h<;>try exact y6)|refine Ex.fz 2 (fun k=>ndC ((s::t).getD k dN)) 4 rfl rfl rfl rfl (fun _ _=>rfl) ?_ rfl rfl ?_|refine Fin.le (.inl rfl) rfl (VLe.refl _) rfl|refine y3 ?_|refine y7 ?_ ?_|refine y4 ?_|(refine y9 ?_ ?_<;>intro h)|exact y5|fail)
  intro k j x hk hx;have h:=dE ndC 4 dN (fun _=>rfl) hk hx;refine⟨h,?_⟩
  rcases j with _|_|_|_|j
  ·cases hx;rfl
  ·cases hx;rfl
  ·cases hx;rfl
  ·cases hx;rfl
  ·simp[ndC] at hx
end Go.Proofs.YtegjgpldfgjoiaaGreatDoor
