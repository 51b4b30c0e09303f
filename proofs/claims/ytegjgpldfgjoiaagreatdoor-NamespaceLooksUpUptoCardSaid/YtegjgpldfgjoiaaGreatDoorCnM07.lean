import Derived.Test.YtegjgpldfgjoiaaGreatDoorCnM06
set_option linter.all false
namespace Go.Proofs.YtegjgpldfgjoiaaGreatDoor
namespace Ab
open Go
set_option maxRecDepth 100000
section
variable {P:Program} {env:List V} {n k:Nat} {L:Hp} {x:Operand} {as_:List Ans} {out:Out} {o:Oper} {t:TypeId} {cs:List S}
def F1:Option V->Nat->Nat->Option Prop
 |none,k,d=>some (k=d)
 |some (.s (.int _ z)),k,_=>some (z=(k:Int))
 |_,_,_=>none
def DT (P:Program) (n:Nat) (L:Hp) (t:TypeId) (x:V) (lo hi mx:Option V) (k h:Nat) (cs:List S) (as_:List Ans):Option Out:=
 match mx,P.underlying t,x with
 |none,some (.slice e),.s (.sla i g len)=>
  match ct P e,lk L i with
  |some sz,some bl=>
   match bl.gh with
   |some (g',z)=>
    match Nat.beq g' g&&Nat.beq z sz&& !bl.ro with
    |true=>
     match F1 lo k 0,F1 hi h len with
     |some A,some B=>some ⟨⟨[i],.s (.sla n (n+1) (h-k)),eR (some i)++[(n,some {bl with cells:=cs,more:=true,gh:=some (n+1,sz),abs:=none})],n+2⟩,as_,A/\B/\k<=h/\h<=len/\h*sz<=bl.cells.length/\cs=(bl.cells.drop (k*sz)).take ((h-k)*sz)⟩
     |_,_=>none
    |false=>none
   |none=>none
  |_,_=>none
 |_,_,_=>none
theorem sB {φ:Ph} {a:Act} {w:World} {x:Option Operand} {d top:Nat} {A:Prop} {code:BoundsCode} (hx:∀ y,x=some y->Vr φ (ev env y) (a.eval y)) (h:F1 (x.map (ev env)) k d=some A) (hA:A) (hk:k<=top):
 (match x.map a.eval with|some v=>Instr.sliceBound v top code|none=>pure d).run P w=.ok k w:=by
 cases x with
 |none=>obtain rfl:k=d:=by simp[F1] at h;exact h.2 hA
        rfl
 |some y=>
  have q:=hx y rfl;simp only[Z1j] at h |-
  cases hv:ev env y with
  |s s=>
   rw[hv] at h q
   cases s with
   |int kk z=>
    simp only[F1,Z06] at h;subst h;subst hA;simp only[Vr,Sr] at q;simp only[Instr.sliceBound,q,asIntOf,Z09,Z0f,Z05];rw[if_pos aa];simp
   |_=>simp[F1] at h
  |_=>rw[hv] at h;simp[F1] at h
theorem F9 {lo hi mx:Option Operand} {h:Nat} (ho:o.op=.slice t x lo hi mx)
 (hh:DT P n L t (ev env x) (lo.map (ev env)) (hi.map (ev env)) (mx.map (ev env)) k h cs as_=some out) (hC:out.C):OutOK P o env n L out:=by
 have hmx:mx=none:=by
  cases mx with
  |none=>rfl
  |some _=>simp[DT] at hh
 subst hmx;unfold DT at hh;split at hh
 ·rename_i e i g len _ hty hx
  split at hh
  ·rename_i sz bl hsz hl
   split at hh
   ·rename_i g' z hgh
    split at hh
    ·rename_i hchk
     simp only[Z07,Z0v] at hchk;obtain⟨⟨e1,e2⟩,hro⟩:=hchk;have e1:=Z0q e1;have e2:=Z0q e2;subst e1;subst e2;split at hh
     ·rename_i A B hA hB
      cases hh;obtain⟨cA,cB,ckh,chl,ccl,ccs⟩:=hC;refine⟨OpL.moved (bi:=some i) (r:=h-k) (λφ a w hop hg=>?_) hro,Z1o _ _⟩;have g1:=hop x (by simp[ho,Op.operands]);rw[hx] at g1;obtain⟨b,c,hb,hgc,hv,hlc⟩:=g1;obtain⟨b2,hb2,pre,ys,rest,fr,p1,hp,p2,p3,p4,p5⟩:=hg.hr i bl (by rw[bq,if_pos an];exact hl);rw[hb] at hb2;cases hb2;obtain⟨kk,hkk,hlenk⟩:=p5.1 _ _ hgh;rw[hgc] at hkk;cases hkk;have hyl:=p2.len;have r1:=sB (P:=P) (w:=w) (top:=h) (code:=.sliceB) (λy hy=>hop y (by subst hy;simp[ho,Op.operands])) hA cA ckh;have r2:=sB (P:=P) (w:=w) (top:=c) (code:=.sliceAcap) (λy hy=>hop y (by subst hy;simp[ho,Op.operands])) hB cB aa
      have hsb:(Instr.sliceBounds true len c (lo.map a.eval) (hi.map a.eval) none).run P w=.ok (k,h,c) w:=by
       unfold Instr.sliceBounds
       cases hi<;>cases lo<;>simp_all
      refine⟨(b.1,if c=k then b.2 else b.2+k*z),c-k,w,?_,rfl,rfl,rfl,aa,Z02 _,λ_ _ _=>rfl,λ_=>⟨i,bl,b,rfl,by rw[bq,if_pos an];exact hl,hb,rfl,hro⟩,λφ' hle hk'=>?_⟩
      ·simp only[execOp,ho,hv,Z2g,Instr.sliceAt,Instr.slice,Z09,run_underlying hty,Z05,hsb,aM hsz,Z1j,bv,Z0f]
       split<;>rfl
      ·by_cases hck:c=k
       ·have h0:h-k=0:=aa
        simp only[if_pos hck];refine⟨pre,[],ys++rest,fr,p1,hp,?_,(λe=>by cases e),λe=>p4 e,⟨λg z e'=>?_,λ_ e'=>(by cases e')⟩⟩
        ·rw[ccs,h0,Z24];simp[All2]
        ·simp only[Z06,Z0j] at e'
         obtain⟨rfl,rfl⟩:=e';exact⟨c-k,hk',by rw[hck,Z3r,Z24];exact Z08 _⟩
       ·simp only[if_neg hck]
        have hks:k*z<=ys.length:=by rw[hyl];exact Z1z (Z1w _ ckh) ccl
        have hd:(h-k)*z<=(ys.drop (k*z)).length:=by rw[Z1u,hyl,Nat.sub_mul];omega
        refine⟨pre++ys.take (k*z),(ys.drop (k*z)).take ((h-k)*z),(ys.drop (k*z)).drop ((h-k)*z)++rest,fr,?_,?_,?_,(λe=>by cases e),λe o' ho'=>p4 e o' ?_,⟨λg z' e'=>?_,λ_ e'=>(by cases e')⟩⟩
        ·rw[p1];congr 2
         rw[Z14,<-Z14 (List.take _ (List.drop _ ys)),Z2m,<-Z14 (List.take _ ys),Z2m]
        ·rw[Z03,Z19,hp,Z45 hks]
        ·rw[ccs];exact ((p2.mono λ_ _=>Sr.mono (bl.ph_le hle)).drop _).take _
        ·simp only[Z03,Z19,Z1u] at ho' |-;omega
        ·simp only[Z06,Z0j] at e'
         obtain⟨rfl,rfl⟩:=e';refine⟨c-k,hk',?_⟩;rw[Nat.sub_mul];simp only[Z03,Z19,Z1u] at hlenk |-;omega
     ·cases hh
    ·cases hh
   ·cases hh
  ·cases hh
 ·cases hh
def vn (P:Program) (n:Nat) (t:TypeId) (x:V) (lo hi mx:Option V) (k h:Nat) (as_:List Ans):Option Out:=
 match mx,P.underlying t,x with
 |none,some (.slice e),.s (.sla i g len)=>
  match ct P e with
  |some sz=>
   match F1 lo k 0,F1 hi h len with
   |some A,some B=>some ⟨⟨[],.w i g sz k (h-k),[],n⟩,as_,A/\B/\k<=h/\h<=len⟩
   |_,_=>none
  |none=>none
 |_,_,_=>none
theorem DS {lo hi mx:Option Operand} {h:Nat} (ho:o.op=.slice t x lo hi mx)
 (hh:vn P n t (ev env x) (lo.map (ev env)) (hi.map (ev env)) (mx.map (ev env)) k h as_=some out) (hC:out.C):OutOK P o env n L out:=by
 have hmx:mx=none:=by
  cases mx with
  |none=>rfl
  |some _=>simp[vn] at hh
 subst hmx;unfold vn at hh;split at hh
 ·rename_i e i g len _ hty hx
  split at hh
  ·rename_i sz hsz
   split at hh
   ·rename_i A B hA hB
    cases hh;obtain⟨cA,cB,ckh,chl⟩:=hC;refine⟨OpL.light λφ a w hop hg=>?_,Z02 _⟩;have g1:=hop x (by simp[ho,Op.operands]);rw[hx] at g1;obtain⟨b,c,hb,hgc,hv,hlc⟩:=g1;have r1:=sB (P:=P) (w:=w) (top:=h) (code:=.sliceB) (λy hy=>hop y (by subst hy;simp[ho,Op.operands])) hA cA ckh;have r2:=sB (P:=P) (w:=w) (top:=c) (code:=.sliceAcap) (λy hy=>hop y (by subst hy;simp[ho,Op.operands])) hB cB aa
    have hsb:(Instr.sliceBounds true len c (lo.map a.eval) (hi.map a.eval) none).run P w=.ok (k,h,c) w:=by
     unfold Instr.sliceBounds
     cases hi<;>cases lo<;>simp_all
    refine⟨.slice (some ⟨b.1,if c=k then b.2 else b.2+k*sz,none⟩) (h-k) (c-k),?_,b,c,hb,hgc,rfl,aa⟩;simp only[execOp,ho,hv,Z2g,Instr.sliceAt,Instr.slice,Z09,run_underlying hty,Z05,hsb,aM hsz,Z1j,bv,Z0f]
    split<;>rfl
   ·cases hh
  ·cases hh
 ·cases hh
theorem AP {φ:Ph} {M:Hp} {w:World} {i g sz m:Nat} {bl:Bl} {v:Value} (hg:Good φ M w) (hl:lk M i=some bl) (hgh:bl.gh=some (g,sz)) (hro:bl.ro=false) (f0:φ n=none) (f1:φ (n+1)=none)
 (hv:Vr φ (.w i g sz k m) v) (hle:(k+m)*sz<=bl.cells.length) (hcs:cs=(bl.cells.drop (k*sz)).take (m*sz)):
 ∃ φ':Ph,Vr φ' (.s (.sla n (n+1) m)) v/\Good φ' (aw M (eR (some i)++[(n,some {bl with cells:=cs,more:=true,gh:=some (n+1,sz),abs:=none})])) w/\
   Stp φ M w φ' (aw M (eR (some i)++[(n,some {bl with cells:=cs,more:=true,gh:=some (n+1,sz),abs:=none})])) w/\(∀ j,¬(n<=j/\j<n+2)->φ' j=φ j):=by
 obtain⟨b,c,hb,hgc,rfl,hkm⟩:=hv;obtain⟨b2,hb2,pre,ys,rest,fr,p1,hp,p2,p3,p4,p5⟩:=hg.hr i bl hl;rw[hb] at hb2;cases hb2;obtain⟨kk,hkk,hlenk⟩:=p5.1 _ _ hgh;rw[hgc] at hkk;cases hkk;have hyl:=p2.len
 let b':Nat×Nat:=(b.1,if c=k then b.2 else b.2+k*sz)
 let φ':Ph:=⟨λj=>if j=n then some b' else if j=n+1 then some (c-k,0) else φ j,φ.z⟩
 have hle':φ.le φ':=by
  refine⟨λj b hb=>?_,λ_ _ h=>h⟩;simp only[φ'];split
  ·rename_i e;subst e;rw[f0] at hb;cases hb
  ·split
   ·rename_i e;subst e;rw[f1] at hb;cases hb
   ·exact hb
 have hn:φ' n=some b':=by simp[φ']
 have hn1:φ' (n+1)=some (c-k,0):=by simp[φ']
 have old:∀ j bj,lk (aw M (eR (some i)++[(n,some {bl with cells:=cs,more:=true,gh:=some (n+1,sz),abs:=none})])) j=some bj->n≠j->lk M j=some bj/\i≠j/\φ' j=φ j:=by
  intro j bj hj hne;rw[g9,if_neg hne] at hj;split at hj
  ·cases hj
  ·rename_i hbi
   refine⟨hj,λe=>hbi (by rw[e]),?_⟩;obtain⟨b,hb,_⟩:=hg.hr j bj hj;simp only[φ'];rw[if_neg (Z48 hne),if_neg];rintro rfl;rw[f1] at hb;cases hb
 have apart:∀ j bj b1,lk M j=some bj->φ j=some b1->i≠j->b1.1≠b.1:=by
  intro j bj b1 hj hb1 hij hbb
  rcases hg.inj j i bj bl b1 b hj hl hb1 hb hbb with rfl|⟨_,e⟩
  ·exact hij rfl
  ·rw[e] at hro;cases hro
 refine⟨φ',⟨b',c-k,hn,hn1,rfl,aa⟩,⟨λj bj hj=>?_,λj j' bj bj' b1 b2 hj hj' hb1 hb2 hbb=>?_,λx l hx=>?_,hg.gz⟩,⟨rfl,rfl,rfl,Z02 _,λ_ _ _=>rfl,λj bj b1 hj hb1 hlt=>?_,λ_ _ h=>h,λ_ _ h=> .inl h⟩,λj hj=>?_⟩
 rotate_left 2
 ·refine⟨(hg.fz x l hx).1,?_⟩
  rintro⟨j,bj,d,hj,hd,hdx,hroj⟩;by_cases e:n=j
  ·subst e;rw[hn] at hd;cases hd
   exact (hg.fz x l hx).2 ⟨i,bl,b,hl,hb,hdx,hro⟩
  ·obtain⟨hm,_,hφ⟩:=old j bj hj e
   exact (hg.fz x l hx).2 ⟨j,bj,d,hm,by rw[<-hφ];exact hd,hdx,hroj⟩
 rotate_left 2
 ·by_cases e:n=j
  ·subst e
   rw[g9,if_pos rfl] at hj;cases hj;refine⟨b',hn,?_⟩;by_cases hck:c=k
   ·have h0:m=0:=aa
    refine⟨pre,[],ys++rest,fr,p1,?_,?_,(λe=>by cases e),λe=>p4 e,⟨λg z e'=>?_,λ_ e'=>(by cases e')⟩⟩
    ·simp only[b',if_pos hck];exact hp
    ·show All2 _ cs []
     rw[hcs,h0,Z24];simp[All2]
    ·simp only[Z06,Z0j] at e'
     obtain⟨rfl,rfl⟩:=e';exact⟨c-k,hn1,by rw[hck,Z3r,Z24];exact Z08 _⟩
   ·have hks:k*sz<=ys.length:=by rw[hyl];rw[Z2q] at hle;omega
    have hd:m*sz<=(ys.drop (k*sz)).length:=by rw[Z1u,hyl];rw[Z2q] at hle;omega
    refine⟨pre++ys.take (k*sz),(ys.drop (k*sz)).take (m*sz),(ys.drop (k*sz)).drop (m*sz)++rest,fr,?_,?_,?_,(λe=>by cases e),λe o' ho'=>p4 e o' ?_,⟨λg z' e'=>?_,λ_ e'=>(by cases e')⟩⟩
    ·show w.heap[b.1]? =_
     rw[p1];congr 2;rw[Z14,<-Z14 (List.take _ (List.drop _ ys)),Z2m,<-Z14 (List.take _ ys),Z2m]
    ·simp only[b',if_neg hck];rw[Z03,Z19,hp,Z45 hks]
    ·show All2 _ cs _
     rw[hcs];exact ((p2.mono λ_ _=>Sr.mono (bl.ph_le hle')).drop _).take _
    ·simp only[Z03,Z19,Z1u] at ho' |-;omega
    ·simp only[Z06,Z0j] at e'
     obtain⟨rfl,rfl⟩:=e';refine⟨c-k,hn1,?_⟩;rw[Nat.sub_mul];simp only[Z03,Z19,Z1u] at hlenk |-;omega
  ·obtain⟨hm,hbi,hφ⟩:=old j bj hj e
   obtain⟨b1,hb1,hatj⟩:=hg.hr j bj hm;exact⟨b1,by rw[hφ];exact hb1,hatj.mono hle' rfl⟩
 ·by_cases e:n=j<;>by_cases e':n=j'
  ·exact .inl (e▸e')
  ·subst e
   obtain⟨hm,hbi,hφ⟩:=old j' bj' hj' e';rw[hn] at hb1;cases hb1;exact absurd hbb.symm (apart j' bj' b2 hm (by rw[<-hφ];exact hb2) hbi)
  ·subst e'
   obtain⟨hm,hbi,hφ⟩:=old j bj hj e;rw[hn] at hb2;cases hb2;exact absurd hbb (apart j bj b1 hm (by rw[<-hφ];exact hb1) hbi)
  ·obtain⟨hm,_,hφ⟩:=old j bj hj e
   obtain⟨hm',_,hφ'⟩:=old j' bj' hj' e';exact hg.inj j j' bj bj' b1 b2 hm hm' (by rw[<-hφ];exact hb1) (by rw[<-hφ'];exact hb2) hbb
 ·by_cases e:n=j
  ·subst e
   rw[hn] at hb1;cases hb1;exact⟨i,bl,b,hl,hb,rfl,(λe=>by rw[hro] at e;cases e),.inr hro⟩
  ·obtain⟨hm,_,hφ⟩:=old j bj hj e
   exact⟨j,bj,b1,hm,by rw[<-hφ];exact hb1,rfl,id,.inl rfl⟩
 ·simp only[φ']
  rw[if_neg aa,if_neg aa]
def ny (P:Program) (n:Nat) (L:Hp) (t:TypeId) (x v:V) (cs cells:List S) (as_:List Ans):Option Out:=
 match x,v with
 | .s (.ptr (some (j,o))),.w i g sz k m=>
   match lk L i,lk L j,ct P t with
   |some bl,some bj,some 1=>
    match bl.gh with
    |some (g',z)=>
     match Nat.beq g' g&&Nat.beq z sz&& !bl.ro&& !bj.ro&& !Nat.beq i j&& !Nat.beq n j&&bC bj [.sla n (n+1) m]&&bj.kind.isNone with
     |true=>some ⟨⟨[i,j],.undef,eR (some i)++[(n,some {bl with cells:=cs,more:=true,gh:=some (n+1,sz),abs:=none}),(j,some {bj with cells:=cells})],n+2⟩,as_,
      (k+m)*sz<=bl.cells.length/\cs=(bl.cells.drop (k*sz)).take (m*sz)/\o+1<=bj.cells.length/\cells=bR bj.cells o [.sla n (n+1) m]⟩
     |false=>none
    |none=>none
   |_,_,_=>none
 |_,_=>none
theorem tO:∀ (A B:Hp) (L:Hp),aw L (A++B)=aw (aw L A) B
 |[],B,L=>rfl
 |(i,b)::A,B,L=>by simp only[Z25,aw];exact tO A B _
def IK (n:Nat):V->V
 | .w _ _ _ _ m=> .s (.sla n (n+1) m)
 |v=>v
theorem v8 (n:Nat) (v:Value):IK n (cv v)=cv v:=by
 unfold cv;split<;>rfl
theorem CJ (n:Nat) (env:List V) (x:Operand):ev (env.map (IK n)) x=IK n (ev env x):=by
 cases x with
 |tmp t=>
  simp only[ev,Z00,Z0t]
  cases env[t]? <;>rfl
 |const v=>exact (v8 n v).symm
 |_=>rfl
theorem xh {y:Operand} {cells:List S} (ho:o.op=.store t x y)
 (h:ny P n L t (ev env x) (ev env y) cs cells as_=some out) (hC:out.C):OutOK P o env n L out:=by
 unfold ny at h;split at h
 ·rename_i j off i g sz k m hx hy
  split at h
  ·rename_i bl bj hl hlj ht
   split at h
   ·rename_i g' z hgh
    split at h
    ·rename_i hchk
     cases h;simp only[Z07,Z0v] at hchk;obtain⟨⟨⟨⟨⟨⟨⟨e1,e2⟩,hro⟩,hroj⟩,hij⟩,hnj⟩,hfit⟩,hkdj⟩:=hchk;have e1:=Z0q e1;have e2:=Z0q e2;subst e1;subst e2
     have hij:i≠j:=λe=>by rw[e,Z2n] at hij;cases hij
     have hnj:n≠j:=λe=>by rw[e,Z2n] at hnj;cases hnj
     obtain⟨c1,c2,c3,c4⟩:=hC;refine⟨?_,Z1o _ _⟩;intro φ a w Q hop hg hf
     have hM:lk (res [i,j] L) i=some bl:=by rw[bq,if_pos an];exact hl
     have hMj:lk (res [i,j] L) j=some bj:=by rw[bq,if_pos an];exact hlj
     have gy:=hop y (by simp[ho,Op.operands]);rw[hy] at gy;obtain⟨φ1,hv1,hg1,hs1,hag1⟩:=AP hg hM hgh hro (hf n (Z02 _) (by show n<n+2;omega)) (hf (n+1) aa (by show n+1<n+2;omega)) gy c1 c2;have hle1:φ.le φ1:=iL (n:=n) (n':=n+2) hf hag1 hs1.zle
     let M1:Hp:=aw (res [i,j] L) (eR (some i)++[(n,some {bl with cells:=cs,more:=true,gh:=some (n+1,z),abs:=none})])
     have hj1:lk M1 j=some bj:=by
      show lk (aw _ _) j=_;rw[g9,if_neg hnj,if_neg (by simpa using hij)];exact hMj
     --the store,with the window as_ taken
     have hst:mc P (n+2) M1 t (ev (env.map (IK n)) x) (ev (env.map (IK n)) y) [match bj.sym with|true=> .cells cells|false=> .stc cells]=some ⟨⟨[j],.undef,[(j,some {bj with cells:=cells})],n+2⟩,[],off+1<=bj.cells.length/\cells=bR bj.cells off [.sla n (n+1) m]⟩:=by
      rw[CJ,CJ,hx,hy];simp only[IK,mc,hj1,ht,cellsOf,ya,Z04,Z0e,Z0c,hroj,hfit,hkdj,Z2n,Bool.and_self,Z2f]
      cases bj.sym<;>rfl
     have hout:=(qC ho hst ⟨c3,c4⟩).1
     have step:=hout φ1 a w Q (λz hz=>by
      rw[CJ];have g:=hop z hz
      cases hev:ev env z with
      |w i' g' sz' k' m'=>
       have hzy:z=y:=by
        rw[ho] at hz;simp[Op.operands] at hz
        rcases hz with rfl|rfl
        ·rw[hx] at hev;cases hev
        ·rfl
       subst hzy;rw[hy] at hev;cases hev;exact hv1
      |_=>rw[hev] at g;exact g.mono hle1) (hg1.sub λi' b' hi'=>by
       rw[bq] at hi';split at hi'
       ·exact hi'
       ·cases hi') (λi' h1 h2=>absurd h2 (by show ¬i'<n+2;omega))
     refine Z4v ?_ step;rintro a' w' ⟨φ',x',rfl,hv,hg',st,hag⟩
     have hag':∀ i',φ' i'=φ1 i':=λi'=>hag i' (by show ¬(n+2<=i'/\i'<n+2);omega)
     have hl2:φ1.le φ':=⟨λi' b' h'=>by rw[hag'];exact h',st.zle⟩
     obtain⟨g2,s2⟩:=frame (L:=res [j] M1) (M:=M1) (M':=aw M1 [(j,some {bj with cells:=cells})]) hg1 (λi' b' hi'=>by
      rw[bq] at hi';split at hi'
      ·exact hi'
      ·cases hi') hg' st hl2 (by
      intro i' bl' hi';by_cases hk:i'∈bw [(j,some {bj with cells:=cells})]
      ·exact .inl (by rw[g8 _ _ M1 i' hk];exact hi')
      ·rw[bK _ _ _ hk] at hi' |-
       by_cases hm:i'∈[j]
       ·exact .inl (by rw[bq,if_pos hm];exact hi')
       ·exact .inr ⟨by rw[bq,if_neg hm],hi'⟩)
     have eM:aw (res [i,j] L) (eR (some i)++[(n,some {bl with cells:=cs,more:=true,gh:=some (n+1,z),abs:=none}),(j,some {bj with cells:=cells})])=aw M1 [(j,some {bj with cells:=cells})]:=by
      show _=aw (aw _ _) _;rw[<-tO];rfl
     refine⟨φ',x',rfl,hv,?_,?_,λi' hi'=>by rw[hag'];exact hag1 i' hi'⟩
     ·show Good φ' (aw (res [i,j] L) _) w'
      rw[eM];exact g2
     ·show Stp φ (res [i,j] L) w φ' (aw (res [i,j] L) _) w'
      rw[eM];exact hs1.trans s2
    ·cases h
   ·cases h
  ·cases h
 ·cases h
def D4 (P:Program) (ts:Array TypeId) (n:Nat) (L:Hp) (d x:V) (as_:List Ans):Option Out:=
 match ts[0]?,ts[1]? with
 |some t,some tx=>
  match P.underlying t,P.underlying tx with
  |some (.slice e),some dx=>
   match gY dx,ct P e,d with
   |true,some sz,.s (.slc none _ _)=>
    match fE L sz 0 x with
    |some (foot,m,_,D)=>some ⟨⟨foot,.s (.slc none 0 (some 0)),[],n⟩,as_,D/\m=0⟩
    |none=>none
   |_,_,_=>none
  |_,_=>none
 |_,_=>none
theorem D3 {c:Call} {d:Operand} (ho:o.op=.call c) (hc:c.callee=.builtin .append) (hargs:c.args.toList=[d,x])
 (h:D4 P c.argTypes n L (ev env d) (gT (ev env x)) as_=some out) (hC:out.C):OutOK P o env n L out:=by
 unfold D4 at h;split at h
 ·rename_i t tx h0 h1
  split at h
  ·rename_i e dx ht hx
   split at h
   ·rename_i sz q1 q2 hdx hsz hd
    split at h
    ·rename_i foot m xs D hs
     cases h;obtain⟨hD,rfl⟩:=hC;refine⟨OpL.light λφ a w hop hg=>?_,Z02 _⟩
     have opd:d∈o.op.operands:=by rw[ho];simp only[Op.operands,Call.operands,hc];simp[<-Z3n,hargs]
     have opx:x∈o.op.operands:=by rw[ho];simp only[Op.operands,Call.operands,hc];simp[<-Z3n,hargs]
     have g1:=hop d opd;rw[hd] at g1;obtain⟨_,_,hv⟩:=g1;obtain⟨r1,vs,r2,r3,r4⟩:=tf (P:=P) hs hD (Z02 _) hg (λj hj=>by rw[bq,if_pos (by simpa using hj)]) (sX (hop x opx))
     have ea:c.args.map a.eval= #[a.eval d,a.eval x]:=by apply Z3v;simp[hargs]
     refine⟨.slice none 0 0,?_,rfl,rfl,rfl⟩;simp only[execOp,ho,resolve,hc,Z09,Z0f,Z05,invoke,builtin,ea,hv];unfold Builtin.append_;simp only[h0,h1,Z1a,Z11,Z23,Z09,Ab.run_underlying ht,Ab.run_underlying hx,Z05,aM hsz,Z0f]
     cases dx<;>first|cases hdx|skip
     all_goals simp only[Z0l,if_false,Z2f,if_true,r1,r2,Z09,Z05,Z0f,Z0p,Z02]
    ·cases h
   ·cases h
  ·cases h
 ·cases h
end
section
variable {o:Oper} {P:Program} {env envS envA:List V} {n b:Nat} {L:Hp} {ans:List Ans} {out:Out} {c:Call} {ops:Array Oper}
def Bw (r:Nat->Nat):Option Bl->Option Bl
 |some bl=>some (ed r bl)
 |none=>none
def b_ (tbl:List Nat) (new:Nat) (L0:Hp):Hp->Hp
 |[]=>[]
 |(i,c)::t=>
  match Nat.blt i tbl.length with
  |true=>
   match lk L0 i with
   |some b=>match b.ro with|true=>b_ tbl new L0 t|false=>(rn tbl new i,Bw (rn tbl new) c)::b_ tbl new L0 t
   |none=>b_ tbl new L0 t
  |false=>(rn tbl new i,Bw (rn tbl new) c)::b_ tbl new L0 t
def dZ (L0 L0':Hp):Bool:=L0.all λx=>(bw L0').elem x.1
def ce:List Nat->Bool
 |[]=>true
 |x::t=> !t.elem x&&ce t
structure callC (P:Program) (f:FuncId) (args:List V) (n:Nat) (L:Hp) (tbl:List Nat) (args0:List V) (L0:Hp) (v0:V) (n0':Nat) (L0':Hp):Prop where
 sc:SC P f args0 tbl.length L0 v0 n0' L0'
 ar:args=args0.map (bW (rn tbl n))
 ft:Fits tbl n n0' L0 (res tbl L)
def mM (P : Program) (f : FuncId) : Bool := match P.funcs[f]? with | some fn => fn.body.isSome && !(fn.name == "runtime.NumGoroutine") | none => false
def qE (P:Program) (f:FuncId) (args:List V) (n:Nat) (L:Hp) (ans:List Ans):Option Out:=
 match ans with
 | .call tbl args0 L0 v0 n0' L0'::as_=>
   match args0.all (fp tbl.length)&&eV tbl.length L0&&dZ L0 L0'&&ce (bw L0')&&Nat.ble tbl.length n0' with
   |true=>
    iR (bW (rn tbl n) v0) λv=>li (b_ tbl n L0 L0') [] λwr=>
     some ⟨⟨tbl,v,wr,n+(n0'-tbl.length)⟩,as_,mM P f=true/\callC P f args n L tbl args0 L0 v0 n0' L0'⟩
   |false=>none
 |_=>none
theorem cO:∀ {L:Hp} {i:Nat} {bl:Bl},lk L i=some bl->(i,some bl)∈L
 |[],_,_,h=>by simp[lk] at h
 |(j,c)::t,i,bl,h=>by
  rw[bd] at h;split at h
  ·rename_i e;subst e;subst h;exact .head _
  ·exact .tail _ (cO h)
theorem lH:∀ {L:Hp} {i:Nat} {c:Option Bl},ce (bw L)=true->(i,c)∈L->lk L i=c
 |(j,d)::t,i,c,hn,h=>by
  simp only[bw,Z13,ce,Z07,Z0v] at hn;rw[bd]
  cases h with
  |head=>simp
  |tail _ h=>
   split
   ·rename_i e;subst e
    have:j∈t.map (·.1):=Z1d.2 ⟨(j,c),h,rfl⟩;have h2:(t.map (·.1)).elem j=true:=Z4q this;rw[h2] at hn;cases hn.1
   ·exact lH hn.2 h
theorem iK:∀ (W L:Hp) (x:Nat),x∈bw W->∃ c,(x,c)∈W/\lk (aw L W) x=c
 |(j,d)::t,L,x,h=>by
  simp only[aw];by_cases ht:x∈bw t
  ·obtain⟨c,hc,he⟩:=iK t (put L j d) x ht
   exact⟨c,.tail _ hc,he⟩
  ·simp only[bw,Z13,Z0h] at h
   have hj:x=j:=h.resolve_right ht;subst hj;exact⟨d,.head _,by rw[bK _ _ _ ht,az,if_pos rfl]⟩
theorem oz {tbl:List Nat} {new:Nat} {L0:Hp}:∀ {L0':Hp} {x:Nat} {c:Option Bl},(x,c)∈b_ tbl new L0 L0'->
 ∃ i d,(i,d)∈L0'/\rn tbl new i=x/\c=d.map (ed (rn tbl new))/\(tbl.length<=i\/∃ b,lk L0 i=some b/\b.ro=false)
 |(j,d)::t,x,c,h=>by
  simp only[b_] at h
  have rest:(x,c)∈b_ tbl new L0 t->∃ i d',(i,d')∈(j,d)::t/\rn tbl new i=x/\c=d'.map (ed (rn tbl new))/\(tbl.length<=i\/∃ b,lk L0 i=some b/\b.ro=false):=λh=>by
   obtain⟨i,d',h1,h2⟩:=oz h;exact⟨i,d',.tail _ h1,h2⟩
  have here:(tbl.length<=j\/∃ b,lk L0 j=some b/\b.ro=false)->(x,c)∈(rn tbl new j,Bw (rn tbl new) d)::b_ tbl new L0 t->
   ∃ i d',(i,d')∈(j,d)::t/\rn tbl new i=x/\c=d'.map (ed (rn tbl new))/\(tbl.length<=i\/∃ b,lk L0 i=some b/\b.ro=false):=by
   intro hc h
   rcases Z0h.1 h with e|h
   ·simp only[Z0j] at e
    exact⟨j,d,.head _,e.1.symm,by rw[e.2];cases d<;>rfl,hc⟩
   ·exact rest h
  split at h
  ·rename_i hlt
   split at h
   ·rename_i b hb
    split at h
    ·exact rest h
    ·rename_i hro;exact here (.inr ⟨b,hb,hro⟩) h
   ·exact rest h
  ·rename_i hge
   refine here (.inl ?_) h
   rcases Z0a j tbl.length with hl|hl
   ·rw[aU.2 hl] at hge;cases hge
   ·exact hl
theorem o7 {tbl:List Nat} {new:Nat} {L0:Hp} {i:Nat} {b:Bl} (hb:lk L0 i=some b) (hro:b.ro=false) (hi:i<tbl.length):∀ {L0':Hp},i∈bw L0'->rn tbl new i∈bw (b_ tbl new L0 L0')
 |(j,d)::t,h=>by
  simp only[bw,Z13,Z0h] at h;simp only[b_]
  rcases h with rfl|h
  ·rw[aU.2 hi]
   simp only[hb,hro,bw,Z13,Z0h,true_or]
  ·have ih:=o7 (new:=new) hb hro hi (L0':=t) h
   split
   ·split
    ·split
     ·exact ih
     ·simp only[bw,Z13,Z0h];exact .inr ih
    ·exact ih
   ·simp only[bw,Z13,Z0h];exact .inr ih
theorem fm {tbl:List Nat} {new:Nat} {L0 L0' M:Hp} (hs:dZ L0 L0'=true) (hn:ce (bw L0')=true):vy tbl new L0 L0' M (aw M (b_ tbl new L0 L0')):=by
 intro x bl hx;by_cases hk:x∈bw (b_ tbl new L0 L0')
 ·left
  obtain⟨c,hc,he⟩:=iK _ M x hk;rw[he] at hx;subst hx;obtain⟨i,d,h1,h2,h3,h4⟩:=oz hc
  cases d with
  |none=>simp at h3
  |some bl0=>exact⟨i,bl0,h2,lH hn h1,by simpa using h3,h4⟩
 ·right
  rw[bK _ _ _ hk] at hx;refine⟨hx,λi hi e b hb=>?_⟩
  cases hro:b.ro with
  |true=>rfl
  |false=>
   exfalso;have h1:=Z0i.1 hs _ (cO hb)
   have h2:i∈bw L0':=by simpa using h1
   have:=o7 (tbl:=tbl) (new:=new) hb hro hi h2;rw[eH hi,e] at this;exact hk this
theorem vr {f:FuncId} (ho:o.op=.call c) (hc:c.callee=.value (.func f))
 (h:qE P f (c.args.toList.map (ev env)) n L ans=some out) (hC:out.C):OutOK P o env n L out:=by
 unfold qE at h;split at h
 ·rename_i tbl args0 L0 v0 n0' L0' as_
  split at h
  ·rename_i hchk
   rw[eA,cD] at h;cases h;simp only[Z07] at hchk;obtain⟨⟨⟨⟨k1,k2⟩,k3⟩,k4⟩,k5⟩:=hchk;obtain⟨hf,hsc,hargs,ft⟩:=hC;unfold mM at hf;split at hf
   ·rename_i fn hfn
    simp only[Z07,Z0v] at hf;exact⟨hsc.op k1 k2 ho hc hfn hf.1 hf.2 hargs ft (fm k3 k4),Z1o _ _⟩
   ·cases hf
  ·cases h
 ·cases h
def XT (P:Program) (f:FuncId) (args:List V) (v:V):Prop:=∀ (φ:Ph) (xs:List Value) (w:World),All2 (Vr φ) args xs->∃ y,(callFunc f xs.toArray).run P w=.ok (.value y) w/\Vr φ v y
theorem XT.op {f:FuncId} {v:V} (ho:o.op=.call c) (hc:c.callee=.value (.func f)) (h:XT P f (c.args.toList.map (ev env)) v):OpL P o env n L v n L:=by
 refine OpL.light λφ a w hop _=>?_
 have hxs:All2 (Vr φ) (c.args.toList.map (ev env)) (c.args.toList.map a.eval):=by
  have key:∀ l:List Operand,(∀ x∈l,Vr φ (ev env x) (a.eval x))->All2 (Vr φ) (l.map (ev env)) (l.map a.eval):=by
   intro l
   induction l with
   |nil=>intro _;trivial
   |cons y t ih=>intro hl;exact⟨hl y (.head _),ih λx hx=>hl x (.tail _ hx)⟩
  refine key _ λx hm=>hop x ?_
  rw[ho];simp only[Op.operands,Call.operands,hc];simp at hm |-;exact .inr hm
 obtain⟨y,hy,hv⟩:=h φ _ w hxs;refine⟨y,?_,hv⟩
 have e:(c.args.toList.map a.eval).toArray=c.args.map a.eval:=by apply Z3v;simp
 rw[e] at hy;simp only[execOp,ho,resolve,hc,Deferred.ofValue,Act.eval,invoke,Z09,Z0f,Z05]
 simpa using hy
def Ga (n:Nat) (x:V) (ans:List Ans):Option Out:=match x with| .s (.ptr (some p))=>lt n (.s (.ptr (some p))) ans True|_=>none
theorem F_ {x:Operand} (ho:o.op=.nilCheck x) (h:Ga n (ev env x) ans=some out):OutOK P o env n L out:=by
 unfold Ga at h;split at h
 ·rename_i p hx
  refine gb h λφ a w hop=>?_
  have g:=hop x (by simp[ho,Op.operands]);rw[hx] at g;refine⟨a.eval x,?_,g⟩;obtain⟨i,q⟩:=p;obtain⟨b,_,hv⟩:=g;simp only[execOp,ho,hv,Z0f]
 ·cases h
def lg (P:Program) (b:Builtin) (ts:Array TypeId) (n:Nat) (L:Hp) (args:List V) (ans:List Ans):Option Out:=
 match b,args with
 | .len,[x]=>match ts[0]? with|some t=>(match IF P t x with|some s=>oe n (some (s,ans,True))|none=>none)|none=>none
 | .min,[x,y]=>oe n (jq false x y ans)
 | .max,[x,y]=>oe n (jq true x y ans)
 | .copy,[x,y]=>DY P ts n L (gT x) (gT y) ans
 | .append,[x,y]=>match ans with| .keep::as_=>D4 P ts n L x (gT y) as_| .eager::as_=>nA P ts n L false x (gT y) as_|ans=>nA P ts n L true x (gT y) ans
 |_,_=>none
def Eh (P:Program) (o:Oper) (env:List V) (n:Nat) (L:Hp) (ans:List Ans):Option Out:=
 match o.op with
 | .move x=>lt n (ev env x) ans True
 | .assign x=>lt n (ev env x) ans True
 | .pick c a b=>
   match ev env c with
   | .s (.bool t)=>match t with|true=>lt n (ev env a) ans True|false=>lt n (ev env b) ans True
   |_=>none
 | .binOp op t x y _=>oe n (yU P op t (gT (ev env x)) (gT (ev env y)) ans)
 | .unOp op _ x=>oe n (aUn op (ev env x) ans)
 | .convert src dst x=>
   match P.underlying src,P.underlying dst with
   |some (.slice _),some .string=>sJ P n L src dst (gT (ev env x)) ans
   |some .string,some (.slice _)=>lf P n src dst (ev env x) ans
   |_,_=>oe n (sN P src dst (ev env x) ans)
 | .makeSlice t l c=>yS P n t (ev env l) (ev env c) ans
 | .slice t x lo hi mx=>
   match ans with
   | .win k h cs::as_=>DT P n L t (ev env x) (lo.map (ev env)) (hi.map (ev env)) (mx.map (ev env)) k h cs as_
   | .wlz k h::as_=>vn P n t (ev env x) (lo.map (ev env)) (hi.map (ev env)) (mx.map (ev env)) k h as_
   |ans=>pi P n t (gT (ev env x)) (lo.map λy=>gT (ev env y)) (hi.map λy=>gT (ev env y)) (mx.map λy=>gT (ev env y)) ans
 | .build t parts=>sO P n t (kD env parts) ans
 | .buildSlice t len parts=>gm P n t len (kD env parts) ans
 | .field t x f=>nz P n t (ev env x) f ans
 | .extract x i=>match Gf (ev env x) i with|some v=>lt n v ans True|none=>none
 | .load t a=>yT P n L t (ev env a) ans
 | .store t a x=>
   match ans with
   | .stw cs cells::as_=>ny P n L t (ev env a) (ev env x) cs cells as_
   |ans=>mc P n L t (ev env a) (ev env x) ans
 | .alloc t=>sQ P n t ans
 | .box t x=>Gh n t (ev env x) ans
 | .fieldAddr s x f=>sM P n s (ev env x) f ans
 | .indexAddr t x ix=>ig P n t (gT (ev env x)) (gT (ev env ix)) ans
 | .index t x ix=>sK P n t (ev env x) (ev env ix) ans
 | .nilCheck x=>Ga n (ev env x) ans
 | .call c=>
   match c.callee with
   | .value (.func f)=>
     match ans with
     | .ext args0 v::as_=>iR v λv=>some ⟨⟨[],v,[],n⟩,as_,c.args.toList.map (ev env)=args0/\XT P f args0 v⟩
     | .callw tbl args0 L0 v0 n0' L0'::as_=>qE P f (c.args.toList.map λy=>gT (ev env y)) n L (.call tbl args0 L0 v0 n0' L0'::as_)
     |ans=>qE P f (c.args.toList.map (ev env)) n L ans
   | .builtin b=>lg P b c.argTypes n L (c.args.toList.map (ev env)) ans
   |_=>none
 |_=>none
theorem vt {b:Builtin} (ho:o.op=.call c) (hc:c.callee=.builtin b)
 (h:lg P b c.argTypes n L (c.args.toList.map (ev env)) ans=some out) (hC:out.C):OutOK P o env n L out:=by
 have ops:∀ x∈c.args.toList,x∈o.op.operands:=λx hx=>by
  rw[ho];simp only[Op.operands,Call.operands,hc];simpa using hx
 unfold lg at h;split at h
 ·rename_i x hargs
  obtain⟨x0,hx0,rfl⟩:∃ x0,c.args.toList=[x0]/\ev env x0=x:=by
   match hl:c.args.toList,hargs with
   |[x0],hargs=>exact⟨x0,rfl,by simpa [hl] using hargs⟩
  split at h
  ·rename_i t ht
   split at h
   ·rename_i s hs
    refine jd h hC λs' as_ C e _ φ a w hop=>?_
    cases e;have g:=hop x0 (ops x0 (by rw[hx0];exact .head _));obtain⟨y,hy,hr⟩:=Gd (P:=P) hs g (ty:=o.type) ht w
    have ea:c.args.map a.eval= #[a.eval x0]:=by apply Z3v;simp[hx0]
    exact⟨y,by simp only[execOp,ho,resolve,hc,Z09,Z0f,Z05,invoke,builtin,ea,hy],hr⟩
   ·cases h
  ·cases h
 ·rename_i x y hargs
  obtain⟨x0,y0,hx0,rfl,rfl⟩:∃ x0 y0,c.args.toList=[x0,y0]/\ev env x0=x/\ev env y0=y:=by
   match hl:c.args.toList,hargs with
   |[x0,y0],hargs=>exact⟨x0,y0,rfl,by simpa [hl] using hargs⟩
  refine jd h hC λs' as_ C e hC φ a w hop=>?_
  have g1:=hop x0 (ops x0 (by rw[hx0];exact .head _));have g2:=hop y0 (ops y0 (by rw[hx0];exact .tail _ (.head _)));obtain⟨v,hv,hr⟩:=Gb (P:=P) e hC g1 g2 (ts:=c.argTypes) (ty:=o.type) w
  have ea:c.args.map a.eval= #[a.eval x0,a.eval y0]:=by apply Z3v;simp[hx0]
  exact⟨v,by simp only[execOp,ho,resolve,hc,Z09,Z0f,Z05,invoke,builtin,ea,hv],hr⟩
 ·rename_i x y hargs
  obtain⟨x0,y0,hx0,rfl,rfl⟩:∃ x0 y0,c.args.toList=[x0,y0]/\ev env x0=x/\ev env y0=y:=by
   match hl:c.args.toList,hargs with
   |[x0,y0],hargs=>exact⟨x0,y0,rfl,by simpa [hl] using hargs⟩
  refine jd h hC λs' as_ C e hC φ a w hop=>?_
  have g1:=hop x0 (ops x0 (by rw[hx0];exact .head _));have g2:=hop y0 (ops y0 (by rw[hx0];exact .tail _ (.head _)));obtain⟨v,hv,hr⟩:=Gc (P:=P) e hC g1 g2 (ts:=c.argTypes) (ty:=o.type) w
  have ea:c.args.map a.eval= #[a.eval x0,a.eval y0]:=by apply Z3v;simp[hx0]
  exact⟨v,by simp only[execOp,ho,resolve,hc,Z09,Z0f,Z05,invoke,builtin,ea,hv],hr⟩
 ·rename_i x y hargs
  obtain⟨x0,y0,hx0,rfl,rfl⟩:∃ x0 y0,c.args.toList=[x0,y0]/\ev env x0=x/\ev env y0=y:=by
   match hl:c.args.toList,hargs with
   |[x0,y0],hargs=>exact⟨x0,y0,rfl,by simpa [hl] using hargs⟩
  rw[<-mw,<-mw] at h;exact OutOK.wk (DX ho hc hx0 h hC)
 ·rename_i x y hargs
  obtain⟨x0,y0,hx0,rfl,rfl⟩:∃ x0 y0,c.args.toList=[x0,y0]/\ev env x0=x/\ev env y0=y:=by
   match hl:c.args.toList,hargs with
   |[x0,y0],hargs=>exact⟨x0,y0,rfl,by simpa [hl] using hargs⟩
  split at h
  ·exact D3 ho hc hx0 h hC
  ·exact pk ho hc hx0 h hC
  ·exact pk ho hc hx0 h hC
 ·cases h
theorem fR (h:Eh P o env n L ans=some out) (hC:out.C):OutOK P o env n L out:=by
 unfold Eh at h;split at h
 ·rename_i x ho
  exact gb h λφ a w hop=>⟨_,by simp only[execOp,ho,Z0f],hop x (by simp[ho,Op.operands])⟩
 ·rename_i x ho
  exact gb h λφ a w hop=>⟨_,by simp only[execOp,ho,Z0f],hop x (by simp[ho,Op.operands])⟩
 ·rename_i c x y ho
  split at h
  ·rename_i t hc
   split at h
   ·exact gb h λφ a w hop=>by
     have g:=hop c (by simp[ho,Op.operands]);rw[hc] at g;simp only[Vr,Sr] at g;exact⟨_,by simp only[execOp,ho,g,asBool,Z09,Z0f,Z05,if_true],hop x (by simp[ho,Op.operands])⟩
   ·exact gb h λφ a w hop=>by
     have g:=hop c (by simp[ho,Op.operands]);rw[hc] at g;simp only[Vr,Sr] at g;exact⟨_,by simp only[execOp,ho,g,asBool,Z09,Z0f,Z05,Z0l,if_false],hop y (by simp[ho,Op.operands])⟩
  ·cases h
 ·rename_i op t x y ty ho
  refine jd h hC λs as_ C e hC φ a w hop=>?_
  obtain⟨v,hv,hr⟩:=D2 (P:=P) (ox:=x) (oy:=y) e hC (sX (hop x (by simp[ho,Op.operands]))) (sX (hop y (by simp[ho,Op.operands]))) w;exact⟨v,by simp only[execOp,ho];rw[Z09,hv];rfl,hr⟩
 ·rename_i op t x ho
  refine jd h hC λs as_ C e hC φ a w hop=>?_
  obtain⟨v,hv,hr⟩:=IE (P:=P) e hC (hop x (by simp[ho,Op.operands])) w;exact⟨v,by simp only[execOp,ho];rw[Z09,hv];rfl,hr⟩
 ·rename_i src dst x ho
  split at h
  ·rw[<-mw] at h;exact OutOK.wk (Aq ho h hC)
  ·exact vo ho h
  ·refine jd h hC λs as_ C e hC φ a w hop=>?_
   obtain⟨v,hv,hr⟩:=Aw (P:=P) e hC (hop x (by simp[ho,Op.operands])) w;exact⟨v,by simp only[execOp,ho];rw[Z09,hv];rfl,hr⟩
 ·rename_i t l c ho;exact DU ho h hC
 ·rename_i t x lo hi mx ho
  split at h
  ·exact F9 ho h hC
  ·exact DS ho h hC
  ·simp only[<-mw] at h
   exact OutOK.wk (Ar ho h hC)
 ·rename_i t parts ho;exact Ax ho h
 ·rename_i t len parts ho;exact pj ho h
 ·rename_i t x f ho;exact xi ho h
 ·rename_i x i ho
  split at h
  ·rename_i v hv
   exact gb h λφ a w hop=>by
    obtain⟨y,hy,hr⟩:=Ge (P:=P) hv (hop x (by simp[ho,Op.operands])) w;exact⟨y,by simp only[execOp,ho];rw[Z09,hy];rfl,hr⟩
  ·cases h
 ·rename_i t a ho;exact DV ho h hC
 ·rename_i t a x ho
  split at h
  ·exact xh ho h hC
  ·exact qC ho h hC
 ·rename_i t ho;exact Ay ho h
 ·rename_i t x ho;exact Gg ho h
 ·rename_i s x f ho;exact Av ho h
 ·rename_i t x ix ho
  rw[<-mw,<-mw] at h;exact OutOK.wk (pQ ho h hC)
 ·rename_i t x ix ho;exact Au ho h hC
 ·rename_i x ho;exact F_ ho h
 ·rename_i c ho
  split at h
  ·rename_i f hc
   split at h
   ·rw[eA] at h
    cases h;obtain⟨e,hx⟩:=hC;exact⟨XT.op ho hc (e▸hx),Z02 _⟩
   ·simp only[<-mw] at h
    exact OutOK.wk (vr ho hc h hC)
   ·exact vr ho hc h hC
  ·rename_i b hc;exact vt ho hc h hC
  ·cases h
 ·cases h
abbrev Gs:=List (Nat×Option Bool)
def ye:Gs->Nat->Option Bool
 |[],_=>none
 |(j,c)::t,i=>match Nat.beq j i with|true=>c|false=>ye t i
def gBad (gs:Gs) (t:Nat):Prop:=ye gs t=some false
def sW (gs:Gs):List Operand->List Bool
 |[]=>[]
 | .tmp t::r=>match ye gs t with|some c=>c::sW gs r|none=>sW gs r
 |_::r=>sW gs r
def opG (gs:Gs):Operand->Prop
 | .tmp t=> ¬gBad gs t
 |_=>True
def LR (envS:List V) (gs:Gs) (envA:List V):Prop:=envA.length=envS.length/\∀ t,envA.getD t .undef=match ye gs t with|some false=> .undef|_=>envS.getD t .undef
theorem LR.ev {gs:Gs} (h:LR envS gs envA) {x:Operand} (hx:opG gs x):ev envA x=ev envS x:=by
 cases x with
 |tmp t=>
  have:=h.2 t;split at this
  ·rename_i e;exact absurd e hx
  ·exact this
 |_=>rfl
def oC (acc:List Nat) (o:Oper):Nat:=o.after.toList.foldl (λs e=>match Region.binds .any e with|true=>s|||(2^e.on|||acc.getD e.on 0)|false=>s) 0
def ml:List Oper->List Nat->List Nat
 |[],acc=>acc
 |o::t,acc=>ml t (acc++[oC acc o])
def lW (a b:List Nat):Bool:=a.all λx=> !b.elem x
def oZ (ops:Array Oper) (x y:Row):Bool:=
 !(lW x.1.dst.toList (y.1.dst.toList++looks ops y.1)&&lW y.1.dst.toList (looks ops x.1)&&lW (bw x.2.wr) (bw y.2.wr++y.2.foot)&&lW (bw y.2.wr) x.2.foot)
def im (ops:Array Oper) (rows:List Row):Bool:=
 let ms:=ml ops.toList []
 (ops.toList.zipIdx.all λ(o,i)=>o.after.toList.all λe=> !Region.binds .any e||Nat.blt e.on i)&&
 rows.zipIdx.all λ(y,j)=>rows.zipIdx.all λ(x,i)=> !Nat.blt i j|| !oZ ops x y||(ms.getD j 0).testBit i
theorem wl {D:Nat->Bool} {acc:List Nat} {i:Nat} (hacc:∀ k,k<acc.length->∀ i,(acc.getD k 0).testBit i=true->D k=true->D i=true) (hlen:∀ e∈o.after.toList,Region.binds .any e=true->e.on<acc.length)
 (hD:∀ e∈o.after.toList,Region.binds .any e=true->D e.on=true) (h:(oC acc o).testBit i=true):D i=true:=by
 have key:∀ (l:List Edge) (s:Nat),(∀ e∈l,e∈o.after.toList)->(s.testBit i=true->D i=true)->
  ((l.foldl (λs e=>match Region.binds .any e with|true=>s|||(2^e.on|||acc.getD e.on 0)|false=>s) s).testBit i=true->D i=true):=by
  intro l
  induction l with
  |nil=>intro s _ hs;exact hs
  |cons e t ih=>
   intro s hm hs;simp only[Z2s];refine ih _ (λe' he'=>hm e' (.tail _ he')) ?_
   cases hb:Region.binds .any e with
   |false=>exact hs
   |true=>
    intro hbit;simp only[Nat.testBit_or,Z1h,Nat.testBit_two_pow,decide_eq_true_eq] at hbit
    rcases hbit with h|rfl|h
    ·exact hs h
    ·exact hD e (hm e (.head _)) hb
    ·exact hacc _ (hlen e (hm e (.head _)) hb) i h (hD e (hm e (.head _)) hb)
 exact key _ 0 (λ_ h=>h) an h
theorem ub {ops:Array Oper} {D:Nat->Bool} (hc:i9 ops D) (down:∀ (i:Nat) o,ops[i]? =some o->∀ e∈o.after.toList,Region.binds .any e=true->e.on<i):
 ∀ (l:List Oper) (acc:List Nat),(∀ j,ops[acc.length+j]? =l[j]?)->(∀ k,k<acc.length->∀ i,(acc.getD k 0).testBit i=true->D k=true->D i=true)->
   ∀ k,k<(ml l acc).length->∀ i,((ml l acc).getD k 0).testBit i=true->D k=true->D i=true
 |[],acc,_,h=>h
 |o::t,acc,ho,h=>by
  simp only[ml]
  have hmem:ops[acc.length]? =some o:=by simpa using ho 0
  refine ub hc down t (acc++[oC acc o]) (λj=>by
   have:=ho (j+1);simp only[Z03,Z04,Z0e,Z0c]
   rw[show acc.length+1+j=acc.length+(j+1) by omega,this];simp) ?_
  intro k hk i hbit hDk;simp only[Z03,Z04,Z0e,Z0c] at hk
  rcases Z0a k acc.length with hlt|hge
  ·refine h k hlt i ?_ hDk
   rwa [Z00,Z0x hlt,<-Z00] at hbit
  ·obtain rfl:k=acc.length:=aa
   have e:(acc++[oC acc o]).getD acc.length 0=oC acc o:=by simp[Z00]
   rw[e] at hbit;exact wl h (λe he hb=>down _ _ hmem e he hb) (λe he hb=>hc _ _ hmem hDk e he hb) hbit
theorem kJ:∀ (l:List Oper) (acc:List Nat),(ml l acc).length=acc.length+l.length
 |[],acc=>by simp[ml]
 |o::t,acc=>by simp only[ml];rw[kJ t];simp;omega
theorem jm {a b:List Nat} {x:Nat} (h:lW a b=true) (ha:x∈a) (hb:x∈b):False:=by
 have:=Z0i.1 h x ha;simp[hb] at this
theorem EO {rows:List Row} (hops:rows.map (·.1)=ops.toList) (h:im ops rows=true):RegOK ops rows:=by
 unfold im at h;simp only[Z07] at h;obtain⟨h1,h2⟩:=h
 have down:∀ (i:Nat) o,ops[i]? =some o->∀ e∈o.after.toList,Region.binds .any e=true->e.on<i:=by
  intro i o hi e he hb;have:=Z0i.1 h1 (o,i) (Z56.2 (by simpa using hi));have:=Z0i.1 this e he;simp only[hb,Z2z,Z46] at this;exact aU.1 this
 have hlen:rows.length=ops.size:=by rw[<-Z28,<-hops,Z0z]
 have bef:∀ (i j:Nat) (x y:Row),i<j->rows[i]? =some x->rows[j]? =some y->oZ ops x y=true->Hb ops i j:=by
  intro i j x y hij hi hj hcf D hc hD;have g1:=Z0i.1 h2 (y,j) (Z56.2 hj);have g2:=Z0i.1 g1 (x,i) (Z56.2 hi);simp only[aU.2 hij,hcf,Z2z,Z46] at g2
  have hjl:j<rows.length:=by
   rcases Z0a j rows.length with h|h
   ·exact h
   ·simp[Z0b h] at hj
  exact ub hc down ops.toList [] (λj=>by simp) (λk hk=>by simp at hk) j (by rw[kJ];simp;omega) i g2 hD
 refine⟨hops,down,?_,?_⟩
 ·intro i j oi ri oj rj t hij hi hj hcase
  refine bef i j _ _ hij hi hj ?_;unfold oZ
  cases hcf:(lW oi.dst.toList (oj.dst.toList++looks ops oj)&&lW oj.dst.toList (looks ops oi)&&lW (bw ri.wr) (bw rj.wr++rj.foot)&&lW (bw rj.wr) ri.foot) with
  |false=>rfl
  |true=>
   exfalso;simp only[Z07] at hcf;obtain⟨⟨⟨c1,c2⟩,c3⟩,c4⟩:=hcf
   rcases hcase with ⟨e1,e2|e2⟩|⟨e1,e2⟩
   ·exact jm c1 (x:=t) (by simp[e1]) (by simp[e2])
   ·exact jm c1 (x:=t) (by simp[e1]) (by simp[e2])
   ·exact jm c2 (x:=t) (by simp[e1]) e2
 ·intro i j oi ri oj rj t hij hi hj hcase
  refine bef i j _ _ hij hi hj ?_;unfold oZ
  cases hcf:(lW oi.dst.toList (oj.dst.toList++looks ops oj)&&lW oj.dst.toList (looks ops oi)&&lW (bw ri.wr) (bw rj.wr++rj.foot)&&lW (bw rj.wr) ri.foot) with
  |false=>rfl
  |true=>
   exfalso;simp only[Z07] at hcf;obtain⟨⟨⟨c1,c2⟩,c3⟩,c4⟩:=hcf
   rcases hcase with ⟨e1,e2|e2⟩|⟨e1,e2⟩
   ·exact jm c3 e1 (by simp[e2])
   ·exact jm c3 e1 (by simp[e2])
   ·exact jm c4 e1 e2
def To (b n:Nat) (env:List V) (L:Hp) (env':List V) (L':Hp):Prop:=
 ∀ (φ₀ φ:Ph) (L₀:Hp) (w₀ w:World) (a:Act),EnvR φ env a->Good φ L w->Stp φ₀ L₀ w₀ φ L w->
   ∃ φ':Ph,EnvR φ' env' a/\Good φ' L' w/\(∀ i,n<=i->φ' i=none)/\Stp φ₀ L₀ w₀ φ' L' w/\(∀ i,i<b->φ' i=φ i)
end
end Ab
end Go.Proofs.YtegjgpldfgjoiaaGreatDoor
