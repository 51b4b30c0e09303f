import Derived.Test.YtegjgpldfgjoiaaGreatDoorCnJ48
import Derived.Test.YtegjgpldfgjoiaaGreatDoorCnJ46
set_option linter.all false
set_option maxHeartbeats 40000000
set_option maxRecDepth 100000
namespace Go.Proofs.YtegjgpldfgjoiaaGreatDoor
open Go Ab
section
variable {j:Nat} {K:List Rk}
abbrev kRo (g:Nat) (K:List Rk):Bl:={cells:=K.flatMap kH,ty:=143,more:=true,ro:=true,sym:=true,flat:=true,gh:=some (g+1,4)}
abbrev rsY (O:List Ro) (T:List Rt) (K:List Rk) (nx nh:Int):Hp:=[(0,some (qV O.length T.length K.length nx nh)),(1,some (CF O)),(3,some (Lc 3 T)),(5,some (kRo 5 K))]
abbrev dK:Rk:=⟨0,0,0,0⟩
theorem JL {o:Nat} {x:S} (hj:j<K.length) (hx:(kH (K.getD j dK))[o]? =some x):(K.flatMap kH)[j*4+o]? =some x:=cq kH 4 dK (λ_=>rfl) hj hx
theorem JK (hj:j<K.length):eO true 4 (kRo 5 K) (j*4)=some (.agg (kH (K.getD j dK))):=by
 have key:∀ (K:List Rk) (j:Nat),j<K.length->((K.flatMap kH).drop (j*4)).take 4=kH (K.getD j dK):=by
  intro K
  induction K with
  |nil=>intro j h;exact absurd h (Z1m _)
  |cons x t ih=>
   intro j h
   cases j with
   |zero=>rfl
   |succ j=>
    rw[Z0g,show (j+1)*4=j*4+4 by omega,Z27];exact ih j (by simpa using h)
 have hl:∀ K:List Rk,(K.flatMap kH).length=K.length*4:=by
  intro K
  induction K with
  |nil=>rfl
  |cons x t ih=>rw[Z0g,Z03,ih,Z04];show 4+t.length*4=_;omega
 unfold eO;rw[show (kRo 5 K).kind=none from rfl];simp only;rw[Z3y (by show j*4+4<=(K.flatMap kH).length;rw[hl];omega)];show some (V.agg (((K.flatMap kH).drop (j*4)).take 4))=_;rw[key K j hj]
structure Lx where
 x:Rk
 us:List Nat
 wid:Int
 upd:Int
 sp:Int
 ba:Int
 ln:Int
abbrev dX:Lx:=⟨dK,[],0,0,0,0,0⟩
abbrev Lx.m (a:Lx) (p:List Nd) (u:Int):List S:=Gq p a.x a.us a.wid a.upd a.sp a.ba a.ln u
abbrev Lx.f (a:Lx) (p:List Nd) (u:Int):Bool:=(dP p u a.us ⟨0,0,0,false⟩).f
def yJ (p:List Nd) (tab u:Int):List Lx->Option (List S)
 |[]=>none
 |a::X=>if a.x.t=tab/\a.f p u=true then some (a.m p u) else yJ p tab u X
theorem Hv {X:List Lx} (h:j<X.length):X.drop j=X.getD j dX::X.drop (j+1):=by
 rw[Z0k h,Z00,Z01 h];rfl
def spZ:List S:=HU 0 0 0 0 0 0 0 0 0
theorem ET (O:List Ro) (nt nl:Nat) (nx nh:Int) (z:Int) (hO:O.length<=100000) (h0:0<O.length) (hy:∀ y,fu z O=some y->y.op≠18):
 FQ 76 [.s (.ptr (some (0,0))),nI z] 7 (uN O nt nl nx nh) (.tup [.agg spZ,.s (.bool false)]) 7 (uN O nt nl nx nh):=by
 refine wW Tryz.func76 ?_
 cases h:fu z O with
 |none=>
  have hob:=lK O nt nl nx nh z none h hO h0
  repeat'(first|refine yA ?_|refine y2 ?_ ?_|refine wX (bD [0,1,2,3,4,5,6] hob ?_)|exact y5|fail)
  all_goals exact bK
 |some y=>
  have hop:=hy y h;have hob:=lK O nt nl nx nh z (some y) h hO h0;rw[Z22] at hob;obtain⟨v1,v2,v3,v4,v5,c1,c2,c3,c4,c5,c6,c7,c8,c9⟩:=y;simp only at hop
  repeat'(first|refine yA ?_|refine y2 ?_ ?_|refine y4 λh=>?_|refine wX (bD [0,1,2,3,4,5,6] hob ?_)|exact y5|fail)
  all_goals exact bK
theorem HY (O:List Ro) (t0:Rt) (tt:List Rt) (X:List Lx) (K:List Rk) (hX:X.map (·.x)=K) (nx nh:Int) (hO:O.length<=100000) (h0:0<O.length) (hT:(t0::tt).length<=100000) (hK:K.length<=100000) (z:Int) (y:Ent) (hy:fu z O=some y) (hop:y.op=18)
 (p:List Nd) (hp:p.length<=2048) (j':Nat) (hj1:jo y.tab 0 (t0::tt)=(j':Int)) (hj2:j'<(t0::tt).length) (hj3:((t0::tt).getD j' dT).2=p) (hD:∀ a∈X,a.x.t=y.tab->FdR p a.x a.us a.wid a.upd/\(a.x.b= -1->RegR O (t0::tt) a.x.a a.sp a.ba a.ln))
 (R:Option (List S)) (hR:yJ p y.tab y.node X=R):
 FQ 76 [.s (.ptr (some (0,0))),nI z] 7 (rsY O (t0::tt) K nx nh) (.tup [.agg (R.getD spZ),.s (.bool R.isSome)]) 7 (rsY O (t0::tt) K nx nh):=by
 have hob:=lK O (t0::tt).length K.length nx nh z (some y) hy hO h0;rw[Z22] at hob;have hz2:(Tryz.prog.types[145]).size=2:=aK;have hz4:(Tryz.prog.types[143]).size=4:=aK;have htn:=zP O.length K.length nx nh t0 tt y.tab hT;rw[hj1] at htn;have hq:((t0::tt).flatMap rG)[j'*2+1]? =some (.frz (λk=>ndC (((t0::tt).getD j' dT).2.getD k dN)) 4 ((t0::tt).getD j' dT).2.length):=xU hj2 rfl;rw[hj3] at hq
 have hsp:=λa (ha:a∈X) ht=>C8 p hp O (t0::tt) K.length nx nh hO h0 hT a.x a.us a.wid a.upd a.sp a.ba a.ln y.node (hD a ha ht).1 (hD a ha ht).2
 have hXl:X.length=K.length:=by rw[<-hX,Z0z]
 clear hD hj3 hj1 hy;obtain⟨v1,v2,v3,v4,v5,c1,c2,c3,c4,c5,c6,c7,c8,c9⟩:=y;simp only at hop hsp hR htn;subst hop;rw[show (t0::tt).length=tt.length+1 from rfl] at hj2;refine wW Tryz.func76 ?_
 repeat'(first|refine Ex.celR 4 0 1 (s':=.sla 3 4 (tt.length+1)) rfl rfl (SLe.rowsla (Z1n _)) rfl ?_|refine Ex.celR 5 0 1 (s':=.row 3 4 (tt.length+1)) rfl rfl (SLe.slarow (Z1n _)) rfl ?_|refine y1 ?_|refine y2 ?_ ?_|refine y4 λh=>?_|refine wX (bD [0,1,2,3,4,5,6] hob ?_)|refine wX (bD [0,1,2,3,4,5,6] htn ?_)|refine gG [.val (al p)] rfl rfl (by rw[hz2,ak,ak,ao,Z0c];exact cD rfl hq) rfl ?_|refine y3 ?_|exact y5|fail)
 refine cy (σ:=Nat) (λj=>[(9,nI j)]) (λ_=>[(0,some (qV O.length (t0::tt).length K.length nx nh)),(1,some (CF O)),(3,some (Lc 3 (t0::tt))),(5,some (kRo 5 K)),(7,some (Mh 0 0 0 0 0 0 0 0 0)),(8,some {cells:=[.str v1,.int .i64 18,.int .i64 v3,.int .i64 v4,.int .i64 v5],ty:=38})]) (λj=>j<=K.length/\yJ p v4 v5 (X.drop j)=R) (λj=>K.length-j) 0 rfl (λ_=>rfl) ⟨Z08 _,hR⟩ aP ⟨rfl,rfl,rfl,rfl,rfl,rfl,trivial⟩ ?_;clear hR;rintro j ⟨hj,hI⟩;by_cases h:j<K.length
 ·have hXj:j<X.length:=aa
  have hkj:K.getD j dK=(X.getD j dX).x:=by
   rw[<-hX,Z00,Z0t,Z00,Z01 hXj];rfl
  rw[Hv hXj,yJ,<-hkj] at hI
  have hmem:X.getD j dX∈X:=by rw[Z00,Z01 hXj];exact Z0s hXj
  have hsp:=hsp _ hmem;rw[<-hkj] at hsp;generalize X.getD j dX=A at hI hsp hmem hkj;have hi0:(K.flatMap kH)[j*4+0]? =some (.int .i64 (K.getD j dK).t):=JL h rfl;have hlx:=JK h;by_cases ht:(K.getD j dK).t=v4
  ·have hs:=hsp ht
   obtain⟨s1,s2,s3,s4,s5,s6,s7,s8,s9,hs9⟩:∃ s1 s2 s3 s4 s5 s6 s7 s8 s9,A.m p v5=HU s1 s2 s3 s4 s5 s6 s7 s8 s9:=by
    unfold Lx.m Gq
    split<;>exact⟨_,_,_,_,_,_,_,_,_,rfl⟩
   rw[hs9] at hI;unfold Lx.m at hs9;rw[<-hkj] at hs9;rw[hs9] at hs
   cases hf:A.f p v5 with
   |true=>
    rw[if_pos ⟨ht,hf⟩] at hI;subst hI;rw[show (dP p v5 A.us ⟨0,0,0,false⟩).f=_ from hf] at hs
    repeat'(first|refine y1 ?_|refine y2 ?_ ?_|refine y4 λh=>?_|refine wX (bD [0,1,2,3,4,5,6] hs ?_)|refine RegX.ixr j rfl rfl rfl aa rfl rfl rfl ?_|refine gG [.val (nI (K.getD j dK).t)] rfl rfl (by rw[ak];exact cD rfl hi0) rfl ?_|refine gG [.val (.agg (kH (K.getD j dK)))] rfl rfl (by exact hlx) rfl ?_|refine y3 ?_|exact y5|fail)
    all_goals exact bK
   |false=>
    rw[if_neg (λe=>by rw[hf] at e;cases e.2)] at hI;rw[show (dP p v5 A.us ⟨0,0,0,false⟩).f=_ from hf] at hs
    repeat'(first|refine y1 ?_|refine y2 ?_ ?_|refine y4 λh=>?_|refine wX (bD [0,1,2,3,4,5,6] hs ?_)|refine RegX.ixr j rfl rfl rfl aa rfl rfl rfl ?_|refine gG [.val (nI (K.getD j dK).t)] rfl rfl (by rw[ak];exact cD rfl hi0) rfl ?_|refine gG [.val (.agg (kH (K.getD j dK)))] rfl rfl (by exact hlx) rfl ?_|refine y3 ?_|exact y5|fail)
    exact dz (j+1) ⟨aa,hI⟩ aa rfl aP ⟨rfl,rfl,rfl,rfl,rfl,rfl,trivial⟩ rfl rfl ac
  ·rw[if_neg (λe=>ht e.1)] at hI
   repeat'(first|refine y1 ?_|refine y2 ?_ ?_|refine y4 λh=>?_|refine RegX.ixr j rfl rfl rfl aa rfl rfl rfl ?_|refine gG [.val (nI (K.getD j dK).t)] rfl rfl (by rw[ak];exact cD rfl hi0) rfl ?_|refine y3 ?_|exact y5|fail)
   exact dz (j+1) ⟨aa,hI⟩ aa rfl aP ⟨rfl,rfl,rfl,rfl,rfl,rfl,trivial⟩ rfl rfl ac
 ·rw[Z10 aa,yJ] at hI
  subst hI
  repeat'(first|refine yA ?_|refine y2 ?_ ?_|refine y4 λh=>?_|exact y5|fail)
  exact bK
end
section
variable {i:Nat}
section
variable {p:List Nd}
theorem xK (z:Sp) (hz:z.b=0):∀ (us l:List Nat),(l++us).Nodup->∀ (q c:Nat) (b s:Int),(IG p us)[q]? =some c->(Gn p us (jh p l))[q]? =some (b,s)->
 (dP p c (l++us) z).bit=b/\(dP p c (l++us) z).len=s/\(dP p c (l++us) z).f=true
 |[],l,_,q,c,b,s,h,_=>by simp[IG] at h
 |x::us,l,hn,q,c,b,s,h1,h2=>by
  have hn':=hn;rw[Z3p] at hn'
  have hx:x∉l:=λh=>hn'.2.2 x h x (.head _) rfl
  have hxu:x∉us:=(Z4r.1 hn'.2.1).1;have e:l++x::us=(l++[x])++us:=aq
  have eb:jh p l+g_ p x=jh p (l++[x]):=by rw[uo];simp[jh]
  unfold IG at h1;rw[Z2o] at h1;rw[Gn] at h2;by_cases ho:(p.getD x dN).op=18
  ·rw[if_pos (decide_eq_true ho)] at h1
   rw[if_pos ho] at h2
   cases q with
   |zero=>
    grind [xQ]
   |succ q=>
    simp only[Z23] at h1;simp only[Z35,Z23] at h2;rw[e];rw[eb] at h2;exact xK z hz us (l++[x]) ae q c b s h1 h2
  ·rw[if_neg ae] at h1
   rw[if_neg ho,Z1e,eb] at h2;rw[e];exact xK z hz us (l++[x]) ae q c b s h1 h2
theorem pn (sp ba ln idx dat:Int):∀ (us:List Int) (E:List Ent),(∀ u∈us,0<=u/\u<E.length)->(eB sp ba ln idx dat us E).2=0->∀ k:Nat,(eB sp ba ln idx dat us E).1.getD k eZ=if (k:Int)∈us then uM (E.getD k eZ) sp ba ln idx dat else E.getD k eZ
 |[],E,_,_,k=>by simp[eB]
 |u::us,E,hu,h,k=>by
  rw[eB] at h |-;have h0:=hu u (.head _);split at h
  ·rename_i hv
   rw[if_pos hv];rw[pn sp ba ln idx dat us _ (λv hv=>by grind) h k,jN aa];by_cases e:u.toNat=k
   ·subst e
    have e2:((u.toNat:Nat):Int)=u:=aa;rw[if_pos rfl,e2];by_cases hm:u∈us
    ·rw[if_pos hm,if_pos (.tail _ hm)];rfl
    all_goals grind
   all_goals grind
  ·cases h
theorem KB {t:Fo} (ha:t.At p 0) (hv:t.V (List.replicate t.cnt (false,68))) (hi:i<t.size) (ho:(p.getD i dN).op=16\/(p.getD i dN).op=17):∀ c,i<c->c<cl p i+1+(t.kid 0 (cl p i)).size->gV (p.getD c dN).op=false:=by
 obtain⟨_,hk,h2,_,_⟩:=bT ha hv hi aa
 have key:∀ ls:List Int,ls.all eI=true->(t.kid 0 i).V (ls.map (λc=>(false,c))++[(true,70)])->cl p i=i+1+ls.length->∀ c,i<c->c<cl p i+1+(t.kid 0 (cl p i)).size->gV (p.getD c dN).op=false:=λls hl hv4 hb c h1 h3=>by
  obtain⟨b,q1,q2,q3,q4,q5,q6⟩:=ld (num:=0) ls (t.kid 0 i) (i+1) ini (nL [] 0) hl hk hv4;obtain⟨f1,f2,f3⟩:=qF ls (t.kid 0 i) (i+1) hl hk hv4;have hsz:=bv (t:=t) (Z08 i) aa;have e:=(ct ha (Z08 i) aa (aa:i<i+1+ls.length) aa ini).1
  have hn:gF p (List.range' (i+1) (t.kid 0 i).size)=[]:=by rw[f1];exact yK q2 (yR q3)
  rw[hb,e,f2] at h3;unfold gF at hn;rw[Z4x] at hn
  grind
 rcases ho with ho|ho
 ·rw[ho] at h2
  exact key [110,105,105] rfl h2 (by grind [cl])
 ·rw[ho] at h2
  exact key [110,110,105,105] rfl h2 (by unfold cl;rw[if_pos ho];rfl)
theorem zH {t:Fo} (ha:t.At p 0) (hv:t.V (List.replicate t.cnt (false,68))) {i':Nat} (hi:i<t.size) (hi':i'<t.size) (ho:(p.getD i dN).op=16\/(p.getD i dN).op=17) (ho':(p.getD i' dN).op=16\/(p.getD i' dN).op=17) {c:Nat} (h:c∈om p t i) (h':c∈om p t i'):i=i':=by
 have r:=bC h;have r':=bC h'
 grind [gV,cl,KB]
structure NLx (p:List Nd) (t:Fo) (num:Int) (T:List Tb) (E:List Ent) (i:Nat) (a:Lx):Prop where
 tb:a.x.t=num
 nd:a.x.nd=(i:Int)
 us:a.us=om p t i
 wid:a.wid=jd p i
 upd:a.upd=lm p i
 b:((p.getD i dN).op=17/\0<=a.x.b)\/((p.getD i dN).op=16/\a.x.b= -1)
 r:a.x.b= -1->RegR (ay 0 E) (bI 1 T) a.x.a a.sp a.ba a.ln
theorem HW {O:List Ro} {s nm:By} {op a:Int} (h:qg O s nm op=some a) (h0:op≠0):∃ y,fu a O=some y/\y.op=op:=by
 unfold qg at h
 cases hl:dG O s nm with
 |none=>grind
 |some k=>
  rw[hl] at h;simp only at h;split at h
  ·rename_i ho
   obtain rfl:=Z1c h
   cases hy:fu k O with
   |none=>rw[hy] at ho;exact absurd ho.symm h0
   |some y=>grind
  ·cases h
section
variable {t:Fo} {num:Int} {T:List Tb} {E:List Ent}
theorem LK (hreg:RegE T E) {E2:List Ent} {d:Fd} {rs:List Int} {K:List Rk} (hq:FdQ p (aF t) (t.kid 0) E d) (hi:d.node=(i:Int)) (hn:ay 0 E2=ay 0 E) (h0:(gk p T d d.node.toNat E2 rs).2.2=0):
 ∃ (a:Lx) (sp ba ln idx dat:Int),(vy p t num T E i K).1=K++[a.x]/\NLx p t num T E i a/\(∀ k:Nat,(gk p T d d.node.toNat E2 rs).1.getD k eZ=if (k:Int)∈d.units then uM (E2.getD k eZ) sp ba ln idx dat else E2.getD k eZ)/\
   ∀ (x:Ent) (c:Int),x.bit=(dP p c (om p t i) ⟨0,0,0,false⟩).bit->x.len=(dP p c (om p t i) ⟨0,0,0,false⟩).len->x.wid=jd p i->x.upd=lm p i->Bz (uM x sp ba ln idx dat)=a.m p c:=by
 have hl2:E2.length=E.length:=by rw[<-bO E2 0,hn,bO]
 obtain⟨⟨i',blk,h1,h2,h3,h4,h5⟩,h6⟩:=hq;obtain rfl:i'=i:=aa
 have hb:blk=cl p i':=by
  grind [cl]
 subst hb
 have hu:∀ u∈d.units,0<=u/\u<E2.length:=λu hu=>by grind
 have hfn:∀ i op,qg (ay 0 E) d.scope (p.getD i dN).str op=(eY p E2 d.scope i op).map λk:Nat=>(k:Int):=λi op=>by rw[<-hn,AI]
 rw[hi,Z12] at h0 |-;unfold gk at h0 |-;unfold vy BH;rw[<-h3]
 rcases h2 with ⟨e1,e2⟩|⟨e1,e2⟩
 ·rw[if_pos e1] at h0 |-
  rw[if_neg ae,hfn];have hf:=hfn (i'+1) 15
  cases hk:eY p E2 d.scope (i'+1) 15 with
  |none=>grind
  |some k=>
   rw[hk] at h0 hf;simp only at h0;obtain⟨y,hy1,hy2⟩:=HW (a:=(k:Int)) hf ac;have hst:=lN hn k;have hr:=(IS hreg hy1 hy2).1;rw[Z12] at hr;refine⟨⟨⟨num,i',k,-1⟩,om p t i',jd p i',lm p i',bX T (E.getD k eZ) 2,bX T (E.getD k eZ) 3,bX T (E.getD k eZ) 4⟩,_,_,_,_,_,rfl,⟨rfl,rfl,rfl,rfl,rfl,.inr ⟨e1,rfl⟩,λ_=>hr⟩,pn _ _ _ _ _ d.units E2 hu h0,λx c g1 g2 g3 g4=>?_⟩;show _=Gq _ _ _ _ _ _ _ _ _;unfold Gq;rw[if_neg ae,kg hst 2,kg hst 3,kg hst 4,<-g1,<-g2,<-g3,<-g4];rfl
 ·have e16: ¬(p.getD i' dN).op=16:=ae
  rw[if_neg e16] at h0 |-;rw[if_pos e1,hfn,hfn]
  cases hk:eY p E2 d.scope (i'+1) 18 with
  |none=>grind
  |some k=>
   cases hk2:eY p E2 d.scope (i'+2) 18 with
   |none=>grind
   |some k2=>
    rw[hk,hk2] at h0;simp only at h0;have ew:aj p (i'+3)=jd p i':=ae;refine⟨⟨⟨num,i',k,k2⟩,om p t i',jd p i',lm p i',0,0,0⟩,_,_,_,_,_,rfl,⟨rfl,rfl,rfl,rfl,rfl,.inl ⟨e1,Z5f _⟩,λh=>?_⟩,pn _ _ _ _ _ d.units E2 hu h0,λx c g1 g2 g3 g4=>?_⟩
    ·grind
    ·show _=Gq _ _ _ _ _ _ _ _ _
     unfold Gq;rw[if_pos ae,C9,<-g1,<-g2,<-g3,<-g4]
     have eb:(0:Int)+jh p (om p t i')=d.bits:=by rw[h4,Z5n];rfl
     show HU 0 0 ((d.bits+8*aj p (i'+3)-1).tdiv (8*aj p (i'+3))*aj p (i'+3)) x.bit x.len x.wid x.upd k k2=_
     grind [uX]
theorem FdO.at {d:Fd} (h:FdO p num (t.kid 0) E d) (hq:FdQ p (aF t) (t.kid 0) E d) (hi:d.node=(i:Int)) {u:Int} (hu:u∈d.units):∃ c:Nat,Am E u=(18,num,(c:Int))/\c∈om p t i/\
 (dP p c (om p t i) ⟨0,0,0,false⟩).f=true/\gQ E u=((dP p c (om p t i) ⟨0,0,0,false⟩).bit,(dP p c (om p t i) ⟨0,0,0,false⟩).len,jd p i,lm p i):=by
 obtain⟨i1,b1,h1,h2,h3⟩:=h;obtain⟨⟨i2,b2,g1,g2,_,_,g3⟩,_⟩:=hq;obtain rfl:i1=i:=aa;obtain rfl:i2=i1:=aa
 have hb:∀ b,((p.getD i2 dN).op=16/\b=i2+4\/(p.getD i2 dN).op=17/\b=i2+5)->b=cl p i2:=λb h=>by
  grind [cl]
 obtain rfl:=hb _ h2;obtain rfl:=hb _ g2;obtain⟨q,hq,rfl⟩:=Z2r.1 hu;have e1:(d.units.map (Am E))[q]? =some (Am E d.units[q]):=ae;have e2:(d.units.map (gQ E))[q]? =some (gQ E d.units[q]):=ae;rw[h3,Z0t] at e1;rw[g3,Z0t] at e2
 cases hc:(IG p ((t.kid 0 (cl p i2)).starts (cl p i2+1)))[q]? with
 |none=>grind
 |some c=>
  cases hb:(Gn p ((t.kid 0 (cl p i2)).starts (cl p i2+1)) 0)[q]? with
  |none=>grind
  |some bs=>
   obtain⟨b,s⟩:=bs;rw[hc] at e1;rw[hb] at e2;have e1:=Z1c e1;have e2:=Z1c e2;obtain⟨k1,k2,k3⟩:=xK (p:=p) ⟨0,0,0,false⟩ rfl (om p t i2) [] (by rw[Z1e];exact mE _ _) q c b s hc hb;rw[Z1e] at k1 k2 k3;refine⟨c,e1.symm,?_,k3,?_⟩
   ·exact (Z2d.1 (Z4i hc)).1
   all_goals grind
theorem Dg (hreg:RegE T E) (ha:t.At p 0) (hv:t.V (List.replicate t.cnt (false,68))):∀ (l:List Nat) (fs:List Fd) (E2:List Ent) (rs:List Int) (K:List Rk),(∀ i∈l,i<t.size)->l.Nodup->fs.map (·.node)=(gF p l).map (λi:Nat=>(i:Int))->(∀ d∈fs,FdQ p (aF t) (t.kid 0) E d/\FdO p num (t.kid 0) E d)->ay 0 E2=ay 0 E->(∀ u,gQ E2 u=gQ E u)->(gf p T fs E2 rs).2.2=0->
 ∃ LX:List Lx,(xV p (vy p t num T E) l K).1=K++LX.map (·.x)/\(∀ a∈LX,∃ i∈gF p l,NLx p t num T E i a)/\LX.map (·.x.nd)=(gF p l).map (λi:Nat=>(i:Int))/\
   (∀ d∈fs,∃ a∈LX,a.x.nd=d.node/\∀ u∈d.units,∀ c:Nat,Am E u=(18,num,(c:Int))->c∈a.us/\a.f p c=true/\Bz ((gf p T fs E2 rs).1.getD u.toNat eZ)=a.m p c)/\(∀ k:Nat,(∀ d∈fs,(k:Int)∉d.units)->(gf p T fs E2 rs).1.getD k eZ=E2.getD k eZ)
 |[],fs,E2,rs,K,_,_,h1,_,_,_,_=>by
  have:fs=[]:=by simpa [gF] using h1
  subst this;exact⟨[],(Z0u _).symm,λa h=>(by cases h),rfl,λd h=>(by cases h),λk _=>rfl⟩
 |i::l,fs,E2,rs,K,hl,hnd,h1,h2,h3,h4,h0=>by
  have hnd':=Z4r.1 hnd;rw[xV];by_cases ho:(p.getD i dN).op=16\/(p.getD i dN).op=17
  ·rw[if_pos ho]
   have hf:gF p (i::l)=i::gF p l:=by grind [gF,gV]
   rw[hf,Z13] at h1;rw[hf]
   cases fs with
   |nil=>simp at h1
   |cons d fs=>
    rw[Z13,Z4s] at h1;have hd:=h2 d (.head _);obtain⟨g1,g2,g3⟩:=IR (num:=num) (T:=T) (rs:=rs) (K:=K) hd.1 h1.1 h3 h4;rw[gf] at h0 |-;by_cases he:(gk p T d d.node.toNat E2 rs).2.2=0
    ·rw[if_pos he] at h0 |-
     obtain⟨a,sp,ba,ln,idx,dat,k1,k2,k3,k4⟩:=LK (num:=num) (rs:=rs) (K:=K) hreg hd.1 h1.1 h3 he;rw[<-g1,if_pos he,k1];obtain⟨LX,m1,m2,m3,m4,m5⟩:=Dg hreg ha hv l fs _ _ (K++[a.x]) (λj hj=>hl j (.tail _ hj)) hnd'.2 h1.2 (λd hd=>h2 d (.tail _ hd)) g2 g3 h0;have hil:i<t.size:=hl i (.head _)
     have apart:∀ u∈d.units,∀ d'∈fs,u∉d'.units:=λu hu d' hd' hu'=>by
      have hm:d'.node∈(gF p l).map (λi:Nat=>(i:Int)):=ae;obtain⟨i',hi',e⟩:=Z1d.1 hm;have hi2:=Z2d.1 hi';obtain⟨c,c1,c2,_⟩:=hd.2.at hd.1 h1.1 hu;obtain⟨c',c1',c2',_⟩:=(h2 d' (.tail _ hd')).2.at (h2 d' (.tail _ hd')).1 e.symm hu'
      have ec:c=c':=by
       grind
      subst ec
      have ho':(p.getD i' dN).op=16\/(p.getD i' dN).op=17:=by have:=hi2.2;unfold gV at this;simpa using this
      have:=zH ha hv hil (hl i' (.tail _ hi2.1)) ho ho' c2 c2';exact hnd'.1 (by rw[this];exact hi2.1)
     refine⟨a::LX,ae,λb hb=>?_,by rw[Z13,Z13,m3,k2.nd],λd' hd'=>?_,λk hk=>?_⟩
     ·grind
     ·rcases Z0h.1 hd' with rfl|hd'
      ·refine⟨a,.head _,by rw[k2.nd];exact h1.1.symm,λu hu c hc=>?_⟩
       obtain⟨c',c1,c2,c3,c4⟩:=hd.2.at hd.1 h1.1 hu
       have ec:c=c':=by
        grind
       subst ec
       have hu0:((u.toNat:Nat):Int)=u:=by have:=(hd.1.un u hu).1;omega
       grind [k2.us,gQ]
      all_goals grind
     all_goals grind
    all_goals grind
  ·rw[if_neg ho]
   have hf:gF p (i::l)=gF p l:=by grind [gF,gV]
   rw[hf] at h1 |-;exact Dg hreg ha hv l fs E2 rs K (λj hj=>hl j (.tail _ hj)) hnd'.2 h1 h2 h3 h4 h0
end
end
end
section
variable {E E':List Ent} {p:List Nd}
theorem AJ {p:List Nd} {tab u:Int} {r:List S}:∀ {X Y:List Lx},yJ p tab u X=some r->yJ p tab u (X++Y)=some r
 |[],_,h=>by cases h
 |a::X,Y,h=>by
  rw[Z25,yJ];rw[yJ] at h;split at h
  ·grind
  ·rename_i e
   rw[if_neg e];exact AJ h
theorem EO {p:List Nd} {tab u:Int} {Y:List Lx}:∀ {X:List Lx},(∀ a∈X,a.x.t≠tab)->yJ p tab u (X++Y)=yJ p tab u Y
 |[],_=>rfl
 |a::X,h=>by
  rw[Z25,yJ,if_neg (λe=>h a (.head _) e.1)]
  exact EO λb hb=>h b (.tail _ hb)
theorem EP {p:List Nd} {tab u:Int} {a:Lx}:∀ {X:List Lx},a∈X->a.x.t=tab->a.f p u=true->(∀ b∈X,b.x.t=tab->b.f p u=true->b.m p u=a.m p u)->yJ p tab u X=some (a.m p u)
 |[],h,_,_,_=>by cases h
 |b::X,h,ht,hf,hu=>by
  rw[yJ];split
  ·grind
  ·rename_i e
   rcases Z0h.1 h with rfl|h
   ·grind
   ·exact EP h ht hf λb hb=>hu b (.tail _ hb)
theorem uZ (z:Int) (U:List Rt):∀ (T:List Rt) (k:Nat),jo z k T≠ -1->jo z k (T++U)=jo z k T
 |[],_,h=>absurd rfl h
 |r::T,k,h=>by
  rw[Z25];rw[jo] at h |-;rw[jo];split
  ·rfl
  ·rename_i e
   rw[if_neg e] at h;exact uZ z U T (k+1) h
def Pre (E E':List Ent):Prop:=E.length<=E'.length/\∀ k,k<E.length->E'[k]? =E[k]?
theorem Gro.pre {num:Int} {m:Nat} (g:Gro p num m E E') (E0:List Ent) (h0:E0.length<=m):Pre E0 E->Pre E0 E':=by
 induction g with
 |refl=>exact id
 | @add E E1 E2 i sc q hi h k ih=>
   rintro⟨hl,hE⟩;obtain⟨ab,c,_,_,rfl⟩:=h.up;refine ih ⟨ae,λk hk=>?_⟩
   grind
 | @spec E E2 j y hm hj hs k ih=>
   rintro⟨hl,hE⟩;refine ih ⟨ae,λk hk=>?_⟩
   grind
theorem Pre.refl (E:List Ent):Pre E E:=⟨Z02 _,λ_ _=>rfl⟩
theorem Pre.get (h:Pre E E') {k:Nat} (hk:k<E.length):E'.getD k eZ=E.getD k eZ:=by
 rw[Z00,h.2 k hk,<-Z00]
theorem RegR.pre {T U:List Tb} {a sp ba ln:Int} (h:RegR (ay 0 E) (bI 1 T) a sp ba ln) (hp:Pre E E'):RegR (ay 0 E') (bI 1 (T++U)) a sp ba ln:=by
 obtain⟨⟨y,j,nd,h1,h2,h3,h4,h5,h6⟩,h7,h8⟩:=h;rw[ik]
 have hg:(bI 1 T++bI (1+T.length) U).getD j dT=(bI 1 T).getD j dT:=by
  grind
 refine⟨⟨y,j,nd,?_,?_,ae,h4,ae,ae⟩,h7,h8⟩
 ·rw[iK] at h1 |-
  split at h1
  ·rename_i h0
   rw[if_pos h0]
   have hk:(a-((0:Nat):Int)).toNat<E.length:=by
    grind
   rw[hp.2 _ hk];exact h1
  ·cases h1
 all_goals grind [uZ]
structure FInv (E:List Ent) (T:List Tb) (X:List Lx):Prop where
 lk:∀ a∈X,∃ j:Nat,j<T.length/\a.x.t=1+(j:Int)/\FdR (T.getD j tZ).p a.x a.us a.wid a.upd/\(a.x.b= -1->RegR (ay 0 E) (bI 1 T) a.x.a a.sp a.ba a.ln)
 un:∀ k:Nat,k<E.length->(E.getD k eZ).op=18->∃ j:Nat,j<T.length/\(E.getD k eZ).tab=1+(j:Int)/\yJ (T.getD j tZ).p (E.getD k eZ).tab (E.getD k eZ).node X=some (Bz (E.getD k eZ))
 tp:∀ j,j<T.length->(T.getD j tZ).p.length<=2048
theorem finv_0:FInv E0 [] []:=by
 refine⟨λa h=>(by cases h),λk hk h=>?_,λj h=>absurd h (Z1m _)⟩;exfalso;have hk:k<3:=hk
 rcases k with _|_|_|k
 ·exact absurd h ac
 ·exact absurd h ac
 ·exact absurd h ac
 ·omega
theorem GU {cs:List Nat} {c:Nat} (h:(dP p c cs ⟨0,0,0,false⟩).f=true):c∈cs:=by
 by_cases hc:c∈cs
 ·exact hc
 ·rw[(xP p c cs _ hc).2.2] at h;cases h
theorem FInv.load {t:Fo} {D R:List Ent} {T:List Tb} {X LX:List Lx} {rs:List Int} {fs:List Fd} (h:FInv E T X) (H:PrO p) (ha:t.At p 0) (hv:t.V (List.replicate t.cnt (false,68))) (hs:t.size=p.length)
 (hp1:Pre E R) (hn:ay 0 R=ay 0 D)
 (hall:∀ k,E.length<=k->k<D.length->(D.getD k eZ).op=18->∃ d∈fs,(k:Int)∈d.units)
 (hq:∀ d∈fs,∃ i:Nat,d.node=(i:Int)/\FdQ p (aF t) (t.kid 0) D d/\FdO p (1+(T.length:Int)) (t.kid 0) D d)
 (hLX:∀ a∈LX,∃ i∈gF p (List.range p.length),NLx p t (1+(T.length:Int)) (T++[⟨p,[]⟩]) D i a)
 (hat:∀ d∈fs,∃ a∈LX,a.x.nd=d.node/\∀ u∈d.units,∀ c:Nat,Am D u=(18,1+(T.length:Int),(c:Int))->c∈a.us/\a.f p c=true/\Bz (R.getD u.toNat eZ)=a.m p c)
 (huq:∀ a∈LX,∀ b∈LX,a.x.nd=b.x.nd->a=b):
 FInv R (T++[⟨p,rs⟩]) (X++LX):=by
 have hpe:∀ U:List Tb,bI 1 (T++[⟨p,rs⟩])=bI 1 (T++[⟨p,[]⟩]):=λ_=>by rw[ik,ik];rfl
 have hgo:∀ j,j<T.length->(T++[(⟨p,rs⟩:Tb)]).getD j tZ=T.getD j tZ:=λj hj=>ip hj
 have hgl:(T++[(⟨p,rs⟩:Tb)]).getD T.length tZ=⟨p,rs⟩:=aq
 have hnode:∀ a∈LX,∃ i:Nat,i<t.size/\((p.getD i dN).op=16\/(p.getD i dN).op=17)/\NLx p t (1+(T.length:Int)) (T++[⟨p,[]⟩]) D i a:=λa h=>by
  obtain⟨i,h1,h2⟩:=hLX a h;have h3:=Z2d.1 h1;refine⟨i,by rw[hs];exact Z29.1 h3.1,?_,h2⟩;have:=h3.2;unfold gV at this
  simpa using this
 refine⟨λa hx=>?_,λk hk ho=>?_,λj hj=>?_⟩
 ·rcases Z0w.1 hx with hx|hx
  ·obtain⟨j,h1,h2,h3,h4⟩:=h.lk a hx
   exact⟨j,by simp;omega,h2,by rw[hgo j h1];exact h3,λhb=>(h4 hb).pre hp1⟩
  ·obtain⟨i,hi,ho,hN⟩:=hnode a hx
   refine⟨T.length,aq,hN.tb,?_,λhb=>?_⟩
   ·rw[hgl,hN.us,hN.wid,hN.upd]
    refine (Mm H ha hv hs hi ho (1+(T.length:Int))).of hN.nd ?_ ?_
    ·rcases hN.b with ⟨e1,e2⟩|⟨e1,e2⟩
     ·simp only[if_pos e1];constructor
      ·intro _;exact Z2l _
      ·intro _;exact e2
     ·simp only[e2,if_neg (by rw[e1];decide: ¬(p.getD i dN).op=17)]
    ·rcases hN.b with ⟨e1,e2⟩|⟨e1,e2⟩
     ·exact .inr e2
     ·exact .inl e2
   ·rw[hpe T,hn];exact hN.r hb
 ·rcases Z0a k E.length with hkE|hkE
  ·rw[hp1.get hkE] at ho |-
   obtain⟨j,h1,h2,h3⟩:=h.un k hkE ho;exact⟨j,by simp;omega,h2,by rw[hgo j h1];exact AJ h3⟩
  ·have hst:=lN hn k
   have hop:(R.getD k eZ).op=(D.getD k eZ).op:=by have e:=congrArg Ent.op hst;exact e
   have htb:(R.getD k eZ).tab=(D.getD k eZ).tab:=by have e:=congrArg Ent.tab hst;exact e
   have hnd:(R.getD k eZ).node=(D.getD k eZ).node:=by have e:=congrArg Ent.node hst;exact e
   have hlen:R.length=D.length:=by rw[<-bO R 0,hn,bO]
   obtain⟨d,hd,hu⟩:=hall k hkE aa (by rw[<-hop];exact ho);obtain⟨i,hi,q1,q2⟩:=hq d hd;obtain⟨c,c1,_,_,_⟩:=q2.at q1 hi hu;obtain⟨a,a1,a2,a3⟩:=hat d hd;obtain⟨b1,b2,b3⟩:=a3 _ hu c c1;have c1':=c1;unfold Am at c1';rw[Z12] at c1' b3;simp only[Z0j] at c1';rw[htb,hnd,c1'.2.1,c1'.2.2];refine⟨T.length,aq,rfl,?_⟩;rw[hgl,EO λb hb=>by obtain⟨j,j1,j2,_⟩:=h.lk b hb;omega,b3];obtain⟨i1,i2,i3,hN⟩:=hnode a a1
   refine EP a1 hN.tb b2 λb hb _ hf=>?_
   obtain⟨k1,k2,k3,hM⟩:=hnode b hb
   have m1:c∈om p t k1:=by rw[<-hM.us];exact GU hf
   have m2:c∈om p t i1:=by rw[<-hN.us];exact b1
   have:=zH ha hv k2 i2 k3 i3 m1 m2;subst this;rw[huq b hb a a1 (by rw[hM.nd,hN.nd])]
 ·have hj:j<T.length+1:=by simpa using hj
  rcases Z0a j T.length with h1|h1
  ·rw[hgo j h1];exact h.tp j h1
  ·rw[show j=T.length by omega,hgl];exact H.hp
end
theorem Hu {α β:Type} (f:α->β) {l:List α} (h:(l.map f).Nodup) {a b:α} (ha:a∈l) (hb:b∈l) (e:f a=f b):a=b:=by
 have h:l.Pairwise (λa b=>f a≠f b):=Z2p.1 h;obtain⟨i,hi,rfl⟩:=Z2r.1 ha;obtain⟨j,hj,rfl⟩:=Z2r.1 hb;rw[Z5h] at h
 rcases Z3g i j with g|g|g
 ·exact absurd e (h i j hi hj g)
 ·subst g;rfl
 ·exact absurd e.symm (h j i hj hi g)
theorem FInv.ldq {p:List Nd} {E E':List Ent} {T T':List Tb} {K K':List Rk} {X:List Lx} (h:FInv E T X) (hX:X.map (·.x)=K) (hq:(E'=E/\T'=T/\K'=K)\/LdQ p E T K E' T' K'):∃ X',FInv E' T' X'/\X'.map (·.x)=K':=by
 rcases hq with ⟨rfl,rfl,rfl⟩|⟨t,D,fs,ha,hv,hs,H,hreg,⟨⟨nw,n1,n2,n3,n4⟩,_⟩,hg,h0,rfl,⟨rs,rfl⟩,rfl⟩
 ·exact⟨X,h,hX⟩
 ·rw[Z1e] at n1
  subst n1;rw[hs,<-Z4g] at n2;have g2:=(Ad (t:=t) (num:=1+(T.length:Int)) (T:=T++[⟨p,[]⟩]) (List.range p.length) fs D [] K n2 (λd hd=>(n3 d hd).1) rfl (λ_=>rfl)).2;obtain⟨LX,m1,m2,m3,m4,m5⟩:=Dg (num:=1+(T.length:Int)) hreg ha hv (List.range p.length) fs D [] K (λi hi=>by rw[hs];exact Z29.1 hi) List.nodup_range n2 n3 rfl (λ_=>rfl) h0;refine⟨X++LX,h.load H ha hv hs (hg.pre E (Z02 _) (Pre.refl E)) g2 n4 (λd hd=>?_) m2 m4 ?_,by rw[Z0d,hX,m1]⟩
  ·have hm:d.node∈(gF p (List.range p.length)).map (λi:Nat=>(i:Int)):=by rw[<-n2];exact Z1d.2 ⟨d,hd,rfl⟩
   obtain⟨i,_,e⟩:=Z1d.1 hm;exact⟨i,e.symm,n3 d hd⟩
  ·intro a a1 b b1 e
   refine Hu (·.x.nd) ?_ a1 b1 e;rw[m3];show List.Pairwise _ _;rw[Z2p]
   exact (List.nodup_range.filter _).imp λh e=>h aa
theorem lL (E:List Ent) (z:Int):fu z (ay 0 E)=(iO E z).map stE:=by
 rw[iK];unfold iO;by_cases h:z<0
 ·rw[if_pos h,if_neg aa];rfl
 ·rw[if_neg h,if_pos aa];simp
theorem Mj {E:List Ent} {T:List Tb} {X:List Lx} {K:List Rk} (h:FInv E T X) (hX:X.map (·.x)=K) (hE:E.length<=1024) (hT:T.length<=100) (hK:K.length<=100000) (nx nh z:Int) {x:Ent} (hg:iO E z=some x) (ho:x.op=18):
 ∃ t0 tt k0 kt,bI 1 T=t0::tt/\K=k0::kt/\FQ 76 [.s (.ptr (some (0,0))),nI z] 7 (rsY (ay 0 E) (t0::tt) (k0::kt) nx nh) (.tup [.agg (Bz x),.s (.bool true)]) 7 (rsY (ay 0 E) (t0::tt) (k0::kt) nx nh):=by
 have hob:=lL E z;rw[hg] at hob
 obtain⟨k,hk,hkx⟩:∃ k:Nat,k<E.length/\E.getD k eZ=x:=by
  unfold iO at hg;split at hg
  ·cases hg
  ·have hk:z.toNat<E.length:=by
    rcases Z0a z.toNat E.length with h|h
    ·exact h
    ·rw[Z0b h] at hg;cases hg
   exact⟨z.toNat,hk,by rw[Z00,hg];rfl⟩
 have hO:(ay 0 E).length<=100000:=by rw[bO];omega
 have hO0:0<(ay 0 E).length:=by rw[bO];omega
 obtain⟨j,j1,j2,j3⟩:=h.un k hk (by rw[hkx];exact ho);rw[hkx] at j2 j3;have hl:=jE T 1;have htb:=py T 1 0 j j1;have htp:=ij T 1 j j1
 have hlk:∀ a∈X,a.x.t=x.tab->FdR (T.getD j tZ).p a.x a.us a.wid a.upd/\(a.x.b= -1->RegR (ay 0 E) (bI 1 T) a.x.a a.sp a.ba a.ln):=λa ha ht=>by
  obtain⟨j',q1,q2,q3,q4⟩:=h.lk a ha;obtain rfl:j'=j:=aa;exact⟨q3,q4⟩
 rw[<-j2] at htb;rw[Z0c] at htb;generalize bI 1 T=TT at*
 cases TT with
 |nil=>simp only[Z0e] at hl;omega
 |cons t0 tt=>
  cases X with
  |nil=>cases j3
  |cons a X=>
   subst hX;exact⟨t0,tt,_,_,rfl,rfl,HY _ t0 tt (a::X) _ rfl nx nh hO hO0 aa hK z (stE x) hob ho _ (h.tp j j1) j htb aa htp hlk _ j3⟩
theorem Mk {E:List Ent} (hE0:0<E.length) (hE:E.length<=1024) (nt nl:Nat) (nx nh z:Int) (ho:∀ x,iO E z=some x->x.op≠18):
 FQ 76 [.s (.ptr (some (0,0))),nI z] 7 (uN (ay 0 E) nt nl nx nh) (.tup [.agg spZ,.s (.bool false)]) 7 (uN (ay 0 E) nt nl nx nh):=
 ET _ _ _ _ _ z (by rw[bO];omega) (by rw[bO];omega) λy hy=>by
  rw[lL] at hy
  cases hg:iO E z with
  |none=>rw[hg] at hy;cases hy
  |some x=>
   rw[hg] at hy;obtain rfl:=Z1c hy;exact ho x hg
theorem AD:∀ (E:List Ent) (s:Nat),(ay s E).map (·.1)=gW (s:Int) E.length
 |[],_=>rfl
 |x::t,s=>by
  rw[ay,Z13,AD t,Z04,gW];rfl
theorem xc (z:Int):∀ (E:List Ent) (s:Nat),FE z (ay s E)=((dg (s:Int) E).filter λr=>decide (r.2=z)).map (·.1)
 |[],_=>rfl
 |x::t,s=>by
  rw[ay,FE,xc z t,dg,Z2o];by_cases h:x.par=z
  ·rw[if_pos (show (stE x).par=z from h),if_pos (decide_eq_true h),Z13];rfl
  ·rw[if_neg (show ¬(stE x).par=z from h),if_neg (by rw[decide_eq_false h];simp)];rfl
theorem H_ (E:List Ent) (z:Int):FE z (ay 0 E)=nV E z:=xc z E 0
theorem HC (E:List Ent) (T:List Tb) (z:Int) (hz:iO E z=none):FQ 29 [.s (.ptr (some (0,0))),nI z] 4 (oE E T) (.s (.row 4 5 0)) 6 (put (oE E T) 4 (h_ 4 [])):=by
 refine wW Tryz.func29 ?_
 repeat'(first|refine y1 ?_|refine y2 ?_ ?_|refine RegX.oLkT none rfl rfl rfl rfl rfl rfl hz rfl ?_|refine y3 ?_|exact y5|fail)
 all_goals exact⟨.inl rfl,.s (.slc none 0 (some 0)),[4,5],VLe.s SLe.nilrow,fY rfl ⟨rfl,rfl,rfl,rfl,trivial⟩ rfl rfl rfl rfl⟩
abbrev unK (c:Nat) (l:List Int):Bl:={cells:=l.map λz=>S.int .i64 z,ty:=3,more:=true,sym:=true,flat:=true,gh:=some (c+1,1)}
theorem zK {c:Nat} {l:List Int} (h:0<l.length):h_ c l=some (unK c l):=jB (λe=>by rw[List.map_eq_nil_iff.1 e] at h;exact absurd h (Z40 0))
abbrev K_ (c:Nat) (l:List Int):Bl:={unK c l with ro:=true}
theorem IF {l:List Int} {j:Nat} (h:j<l.length):(l.map λz=>S.int .i64 z)[j]? =some (.int .i64 (l.getD j 0)):=by
 rw[Z0t,Z01 h,Z00,Z01 h];rfl
theorem Mn:FQ 39 [.s (.row 0 1 0),.s (.row 2 3 0)] 4 [] (bV true) 4 []:=by
 refine wW Tryz.func39 ?_;refine gH 0 (.s (.frz (λ_=>[]) 1 0)) (VLe.s SLe.row0) rfl (gH 1 (.s (.frz (λ_=>[]) 1 0)) (VLe.s SLe.row0) rfl ?_)
 repeat'(first|refine y1 ?_|refine y2 ?_ ?_|refine y4 λh=>?_|refine y3 ?_|exact y5|fail)
 refine Ex.unroll 1 ?_
 repeat'(first|refine y1 ?_|refine y2 ?_ ?_|refine y4 λh=>?_|refine y3 ?_|exact y5|fail)
 all_goals exact⟨.inl rfl,_,[],ah _,fY rfl trivial rfl rfl rfl rfl⟩
theorem Ja (l:List Int) (N:Nat) (hN:l.length=N) (h0:0<N) (hb:N<=1000000000):FQ 39 [.s (.row 0 1 N),.s (.row 2 3 N)] 4 [(0,some (K_ 0 l)),(2,some (K_ 2 l))] (bV true) 4 [(0,some (K_ 0 l)),(2,some (K_ 2 l))]:=by
 have hsz:(Tryz.prog.types[3]).size=1:=aK;refine wW Tryz.func39 ?_;refine gH 0 (.s (.sla 0 1 N)) (VLe.s (SLe.rowsla h0)) rfl (gH 1 (.s (.sla 2 3 N)) (VLe.s (SLe.rowsla h0)) rfl ?_)
 repeat'(first|refine y1 ?_|refine y2 ?_ ?_|refine y4 λh=>?_|refine y3 ?_|exact y5|fail)
 refine cy (σ:=Nat) (λj=>[(5,nI j)]) (λ_=>[(0,some (K_ 0 l)),(2,some (K_ 2 l))]) (λj=>j<=N) (λj=>N-j) 0 rfl (λ_=>rfl) (Z08 _) aP ⟨rfl,rfl,trivial⟩ ?_;intro j hj;by_cases h:j<N
 ·have hl:=IF (l:=l) (j:=j) aa
  repeat'(first|refine y1 ?_|refine y2 ?_ ?_|refine y4 λh=>?_|refine gG [.val (nI (l.getD j 0))] rfl rfl (by rw[hsz,ak,ao,Z0c,Z1p];exact cD rfl hl) rfl ?_|refine y3 ?_|exact y5|fail)
  exact dz (j+1) aa aa rfl aP ⟨rfl,rfl,trivial⟩ rfl rfl ac
 ·obtain rfl:j=N:=aa
  repeat'(first|refine y1 ?_|refine y2 ?_ ?_|refine y4 λh=>?_|refine y3 ?_|exact y5|fail)
  all_goals exact bK
theorem wE:∀ (n:Nat) (s:Int) (j:Nat),j<n->(gW s n).getD j 0=s+j
 |0,_,_,h=>absurd h (Z1m _)
 |n+1,s,0,_=>by rw[gW,Z34];simp
 |n+1,s,j+1,h=>by
  rw[gW,Z27,wE n (s+1) j aa];omega
def Ew (E:List Ent) (z:Int):List Int:=if (iO E z).isSome then nV E z else []
theorem Kk (E:List Ent) (T:List Tb) (hE:E.length<=1024) (z:Int):FQ 29 [.s (.ptr (some (0,0))),nI z] 4 (oE E T) (.s (.row 4 5 (Ew E z).length)) 6 (put (oE E T) 4 (h_ 4 (Ew E z))):=by
 unfold Ew
 cases hg:iO E z with
 |none=>exact HC E T z hg
 |some x=>
  have h:=Ki E T hE z.toNat;unfold iO at hg;split at hg
  ·cases hg
  ·have hk:z.toNat<E.length:=by
    rcases Z0a z.toNat E.length with h|h
    ·exact h
    ·rw[Z0b h] at hg;cases hg
   have h:=h hk;rw[show ((z.toNat:Nat):Int)=z by omega] at h;exact h
theorem Kj (E:List Ent) (nt nl:Nat) (nx nh:Int) (hE:E.length<=1024) (h0:0<E.length) (z:Int):FQ 77 [.s (.ptr (some (0,0))),nI z] 7 (uN (ay 0 E) nt nl nx nh) (.s (.row 7 8 (Ew E z).length)) 9 (JJ (ay 0 E) nt nl nx nh (Ew E z)):=
 Mx _ _ _ _ _ z _ (by rw[lL,H_];unfold Ew;cases iO E z<;>rfl) (by rw[bO];omega) (by rw[bO];omega)
abbrev Ly (E:List Ent) (T:List Tb) (TT:List Rt) (K:List Rk):Hp:=[(0,some (ge 1 2 3 (E.length:Nat) (1+(T.length:Int)))),(1,some (oB E)),(2,some (pB E)),(3,some (tB T)),(4,some (pC 5 7 9 (ay 0 E).length TT.length K.length E.length (1+(T.length:Int)))),(5,some (oG 5 (ay 0 E))),(7,tR 7 TT),(9,kR 9 K),(11,some {cells:=[.ptr (some (0,0)),.ptr (some (4,0))],ty:=29}),(12,some (unK 12 (gW 0 E.length)))]
theorem pM {E:List Ent} {T:List Tb} {TT:List Rt} {K:List Rk}:fg 14 (Ly E T TT K)=true:=by
 unfold Ly tR kR;generalize TT.flatMap rG=c1;generalize K.flatMap kH=c2
 cases c1<;>cases c2<;>rfl
theorem JI {E:List Ent} {T:List Tb} {X:List Lx} {K:List Rk} (h:FInv E T X) (hX:X.map (·.x)=K) (hE0:0<E.length) (hE:E.length<=1024) (hT:T.length<=100) (hK:K.length<=100000):
 FQ 38 [.agg [.ptr (some (0,0)),.ptr (some (4,0))]] 11 (Lm E T K) (bV true) 11 [(0,none),(1,none),(2,none),(3,none),(4,none),(5,none),(7,none),(9,none)]:=by
 have hsz:(Tryz.prog.types[3]).size=1:=aK;have hNl:(gW 0 E.length).length=E.length:=qc _ _;have hOl:(ay 0 E).length=E.length:=bO _ _;have hos:=BN E T hE;rw[zK aa] at hos
 have hfu:=λz x=>Mj h hX hE hT hK E.length (1+(T.length:Int)) z (x:=x)
 unfold Lm;generalize bI 1 T=TT at*
 have hor:FQ 15 [.s (.ptr (some (0,0)))] 7 (uN (ay 0 E) TT.length K.length E.length (1+(T.length:Int))) (.s (.row 7 8 (ay 0 E).length)) 9 [(0,some (qV (ay 0 E).length TT.length K.length E.length (1+(T.length:Int)))),(1,some (CF (ay 0 E))),(7,some (unK 7 (gW 0 E.length)))]:=by
  have:=J2 (ay 0 E) TT.length K.length E.length (1+(T.length:Int)) aa;rw[AD] at this;rw[<-zK aa];exact this
 rw[hOl] at hor;have heq:=Ja (gW 0 E.length) E.length hNl hE0 aa
 have hon:=λz=>IZ E T z _ rfl
 have hob:=λz=>lK (ay 0 E) TT.length K.length E.length (1+(T.length:Int)) z _ (lL E z) aa aa
 have hfn:=λz=>Ml E T z _ rfl
 have hfo:=λz=>Mk hE0 hE TT.length K.length E.length (1+(T.length:Int)) z
 have hkn:=Kk E T hE;have hkr:=Kj E TT.length K.length E.length (1+(T.length:Int)) hE hE0;refine wW Tryz.func38 ?_
 repeat'(first|refine yA ?_|refine y2 ?_ ?_|refine wX (bD [4,5,6,7,8,9,10] hor ?_)|refine wX (bD [0,1,2,3] hos ?_)|refine wX (bD [14,15,12,13] heq ?_)|exact y5|fail)
 refine my [0,1,2,3,4,5,6,7,8,9,10,11,12,13] 95 [(1,.s (.ptr (some (11,0)))),(3,.s (.sla 12 13 E.length)),(4,nI (0:Nat))] (Ly E T TT K) rfl rfl ⟨ah _,VLe.s (SLe.rowsla hE0),ah _,trivial⟩ ⟨rfl,rfl,rfl,rfl,rfl,rfl,bh rfl (bh rfl ⟨rfl,rfl,trivial⟩)⟩ (by
  unfold Ly tR kR;generalize TT.flatMap rG=c1;generalize K.flatMap kH=c2
  cases c1<;>cases c2<;>rfl) ?_
 refine cy (σ:=Nat) (λj=>[(4,nI j)]) (λ_=>Ly E T TT K) (λj=>j<=E.length+1) (λj=>E.length+1-j) 0 rfl (λ_=>rfl) (Z08 _) aP ⟨rfl,rfl,rfl,rfl,rfl,rfl,fF rfl (fF rfl ⟨rfl,rfl,trivial⟩)⟩ ?_;intro j hj;by_cases hj1:j<E.length+1
 ·obtain⟨z,hz⟩:∃ z:Int,(j<E.length/\z=(j:Int))\/(¬j<E.length/\z= -1):=by
   by_cases hl:j<E.length
   ·exact⟨_,.inl ⟨hl,rfl⟩⟩
   ·exact⟨_,.inr ⟨hl,rfl⟩⟩
  have hon:=hon z;have hob:=hob z;have hfn:=hfn z;have hfo:=hfo z;have hkn:=hkn z;have hkr:=hkr z;have hfu:=hfu z;unfold oV at hfn
  have hkd:iO E z=none->Ew E z=[]:=λe=>by unfold Ew;rw[e];rfl
  have hld:j<E.length->((gW 0 E.length).map λz=>S.int .i64 z)[j]? =some (.int .i64 (j:Int)):=λhl=>by
   rw[IF aa,wE _ 0 _ hl,Z5n]
  have hgo:j<E.length->iO E (j:Int)≠none:=λhl e=>by
   unfold iO at e;rw[if_neg aa,Z12,Z01 hl] at e;cases e
  have hgn:iO E (-1)=none:=rfl
  have hkl:(Ew E z).length<=E.length:=by
   unfold Ew nV;split
   ·rw[Z0z]
    have:=Z37 (λr:Int×Int=>decide (r.2=z)) (dg 0 E);rw[ig] at this;exact this
   ·exact Z08 _
  generalize Ew E z=kl at*;have hek:=Ja kl kl.length rfl;have he0:=Mn
  cases hg:iO E z with
  |none=>
   obtain rfl:=hkd hg
   have hfo:=hfo λx e=>by rw[hg] at e;cases e
   rw[hg] at hon hob hfn
   rcases hz with ⟨hl,rfl⟩|⟨hl,rfl⟩
   ·exact absurd hg (hgo hl)
   clear hek hld
   repeat'(first|refine y1 ?_|refine y2 ?_ ?_|refine y4 λh=>?_|refine wX (bD [0,1,2,3] hon ?_)|refine wX (bD [4,5,6,7,8,9,10] hob ?_)|refine wX (bD [0,1,2,3] hfn ?_)|refine wX (bD [4,5,6,7,8,9,10] hfo ?_)|refine wX (bD [0,1,2,3] hkn ?_)|refine wX (bD [4,5,6,7,8,9,10] hkr ?_)|refine wX (bD [18,19,20,21] he0 ?_)|refine RegX.atCmp (CmpG.ag false rfl rfl rfl rfl (by first|rfl|simp[stE,cV]) aK aK rfl ?_)|refine y3 ?_|exact y5|fail)
   exact dz (j+1) aa aa rfl aP ⟨rfl,rfl,rfl,rfl,rfl,rfl,fF rfl (fF rfl ⟨rfl,rfl,trivial⟩)⟩ rfl pM ac
  |some x=>
   rw[hg] at hon hob hfn
   rcases hz with ⟨hl,rfl⟩|⟨hl,rfl⟩
   ·have hld:=hld hl
    by_cases ho:x.op=18
    ·obtain⟨t0,tt,k0,kt,e1,e2,hfv⟩:=hfu x hg ho
     subst e1;subst e2;simp only[if_pos ho] at hfn
     cases kl with
     |nil=>
      clear hek
      repeat'(first|refine y1 ?_|refine y2 ?_ ?_|refine y4 λh=>?_|refine wX (bD [0,1,2,3] hon ?_)|refine wX (bD [4,5,6,7,8,9,10] hob ?_)|refine wX (bD [0,1,2,3] hfn ?_)|refine wX (bD [4,5,6,7,8,9,10] hfv ?_)|refine wX (bD [0,1,2,3] hkn ?_)|refine wX (bD [4,5,6,7,8,9,10] hkr ?_)|refine wX (bD [18,19,20,21] he0 ?_)|refine RegX.atCmp (CmpG.ag false rfl rfl rfl rfl (by first|rfl|simp[stE,cV]) aK aK rfl ?_)|refine gG [.val (nI (j:Int))] rfl rfl (by rw[hsz,ak,ao,Z0c,Z1p];exact cD rfl hld) rfl ?_|refine y3 ?_|exact y5|fail)
      exact dz (j+1) aa aa rfl aP ⟨rfl,rfl,rfl,rfl,rfl,rfl,fF rfl (fF rfl ⟨rfl,rfl,trivial⟩)⟩ rfl pM ac
     |cons k1 kk=>
      have hek:=hek (Z1n _) aa
      repeat'(first|refine y1 ?_|refine y2 ?_ ?_|refine y4 λh=>?_|refine wX (bD [0,1,2,3] hon ?_)|refine wX (bD [4,5,6,7,8,9,10] hob ?_)|refine wX (bD [0,1,2,3] hfn ?_)|refine wX (bD [4,5,6,7,8,9,10] hfv ?_)|refine wX (bD [0,1,2,3] hkn ?_)|refine wX (bD [4,5,6,7,8,9,10] hkr ?_)|refine wX (bD [18,19,20,21] hek ?_)|refine RegX.atCmp (CmpG.ag false rfl rfl rfl rfl (by first|rfl|simp[stE,cV]) aK aK rfl ?_)|refine gG [.val (nI (j:Int))] rfl rfl (by rw[hsz,ak,ao,Z0c,Z1p];exact cD rfl hld) rfl ?_|refine y3 ?_|exact y5|fail)
      exact dz (j+1) aa aa rfl aP ⟨rfl,rfl,rfl,rfl,rfl,rfl,fF rfl (fF rfl ⟨rfl,rfl,trivial⟩)⟩ rfl pM ac
    ·have hfo:=hfo λy e=>by rw[hg] at e;cases e;exact ho
     simp only[if_neg ho] at hfn
     cases kl with
     |nil=>
      clear hek
      repeat'(first|refine y1 ?_|refine y2 ?_ ?_|refine y4 λh=>?_|refine wX (bD [0,1,2,3] hon ?_)|refine wX (bD [4,5,6,7,8,9,10] hob ?_)|refine wX (bD [0,1,2,3] hfn ?_)|refine wX (bD [4,5,6,7,8,9,10] hfo ?_)|refine wX (bD [0,1,2,3] hkn ?_)|refine wX (bD [4,5,6,7,8,9,10] hkr ?_)|refine wX (bD [18,19,20,21] he0 ?_)|refine RegX.atCmp (CmpG.ag false rfl rfl rfl rfl (by first|rfl|simp[stE,cV]) aK aK rfl ?_)|refine gG [.val (nI (j:Int))] rfl rfl (by rw[hsz,ak,ao,Z0c,Z1p];exact cD rfl hld) rfl ?_|refine y3 ?_|exact y5|fail)
      exact dz (j+1) aa aa rfl aP ⟨rfl,rfl,rfl,rfl,rfl,rfl,fF rfl (fF rfl ⟨rfl,rfl,trivial⟩)⟩ rfl pM ac
     |cons k1 kk=>
      have hek:=hek (Z1n _) aa
      repeat'(first|refine y1 ?_|refine y2 ?_ ?_|refine y4 λh=>?_|refine wX (bD [0,1,2,3] hon ?_)|refine wX (bD [4,5,6,7,8,9,10] hob ?_)|refine wX (bD [0,1,2,3] hfn ?_)|refine wX (bD [4,5,6,7,8,9,10] hfo ?_)|refine wX (bD [0,1,2,3] hkn ?_)|refine wX (bD [4,5,6,7,8,9,10] hkr ?_)|refine wX (bD [18,19,20,21] hek ?_)|refine RegX.atCmp (CmpG.ag false rfl rfl rfl rfl (by first|rfl|simp[stE,cV]) aK aK rfl ?_)|refine gG [.val (nI (j:Int))] rfl rfl (by rw[hsz,ak,ao,Z0c,Z1p];exact cD rfl hld) rfl ?_|refine y3 ?_|exact y5|fail)
      exact dz (j+1) aa aa rfl aP ⟨rfl,rfl,rfl,rfl,rfl,rfl,fF rfl (fF rfl ⟨rfl,rfl,trivial⟩)⟩ rfl pM ac
   ·rw[hgn] at hg;cases hg
 ·obtain rfl:j=E.length+1:=aa
  repeat'(first|refine yA ?_|refine y2 ?_ ?_|refine y4 λh=>?_|exact y5|fail)
  exact⟨.inl rfl,_,[],ah _,fY rfl trivial rfl rfl rfl rfl⟩
