import Derived.Test.YtegjgpldfgjoiaaGreatDoorCnM45
import Derived.Test.YtegjgpldfgjoiaaGreatDoorCnM40
import Derived.Test.YtegjgpldfgjoiaaGreatDoorCnM32
set_option linter.all false
namespace Go.Proofs.YtegjgpldfgjoiaaGreatDoor
open Go Ab
set_option maxRecDepth 100000
set_option maxHeartbeats 40000000
section
variable {i:Nat}
theorem pW:∀ (t:Fo) (j:Nat),(t.starts j).Nodup
 | .nil,_=>Z5b
 | .cons x k n,j=>by
   rw[Fo.starts,Z4r];exact⟨λh=>by have:=(bD h).1;omega,pW n _⟩
section
variable {p:List Nd} {t:Fo}
theorem DP {w u:Int} (h:iY w u=false):(w=1\/w=2\/w=4\/w=8)/\u<=2:=by
 unfold iY at h;split at h
 ·rename_i hw
  rw[decide_eq_false_iff_not] at h;exact⟨hw,aa⟩
 ·cases h
theorem CI (H:PrO p) (hi:i<p.length) (ho:(p.getD i dN).op=16\/(p.getD i dN).op=17):(jZ p i=1\/jZ p i=2\/jZ p i=4\/jZ p i=8)/\0<=px p i/\px p i<=2:=by
 have h:=H.hO i hi;have h0:0<=px p i:=ca H.hI (dw p i-1)
 have key:iY (jZ p i) (px p i)=false:=by
  unfold aK at h;unfold jZ px dw
  rcases ho with ho|ho
  ·rw[if_neg (by rw[ho];decide)]
   rw[ho] at h;exact h
  ·rw[if_pos ho]
   rw[ho] at h;exact h
 exact⟨(DP key).1,h0,(DP key).2⟩
theorem rW (ha:t.At p 0) (hv:t.V (List.replicate t.cnt (false,68))) (hi:i<t.size) (ho:(p.getD i dN).op=16\/(p.getD i dN).op=17):
 dw p i<t.size/\(t.kid 0 (dw p i)).At p (dw p i+1)/\(t.kid 0 (dw p i)).V (List.replicate (t.kid 0 (dw p i)).cnt (false,70))/\(t.kid 0 i).starts (i+1)=List.range' (i+1) (dw p i-i)/\dw p i+1+(t.kid 0 (dw p i)).size<=t.size:=by
 obtain⟨_,hk,h2,_,_⟩:=bL ha hv hi aa;have hsz:=bm (t:=t) (Z08 i) aa
 have key:∀ ls:List Int,ls.all d8=true->(t.kid 0 i).V (ls.map (λc=>(false,c))++[(true,70)])->dw p i=i+1+ls.length->dw p i<t.size/\(t.kid 0 (dw p i)).At p (dw p i+1)/\(t.kid 0 (dw p i)).V (List.replicate (t.kid 0 (dw p i)).cnt (false,70))/\(t.kid 0 i).starts (i+1)=List.range' (i+1) (dw p i-i)/\dw p i+1+(t.kid 0 (dw p i)).size<=t.size:=λls hl hv4 hb=>by
  obtain⟨b,q1,q2,q3,q4,q5,q6⟩:=l_ (num:=0) ls (t.kid 0 i) (i+1) ini (mI [] 0) hl hk hv4;obtain⟨f1,f2,f3⟩:=sD ls (t.kid 0 i) (i+1) hl hk hv4;have e:=(cl ha (Z08 i) aa (aa:i<i+1+ls.length) aa ini).1
  have hs:∀ (ls:List Int) (k:Fo) (j:Nat),ls.all d8=true->k.V (ls.map (λc=>(false,c))++[(true,70)])->k.starts j=List.range' j (ls.length+1):=by
   intro ls
   induction ls with
   |nil=>
    intro k j _ hv;obtain⟨y,bl,n,rfl,h1,h2,h3⟩:=iZ hv;have:=gS h1;subst this;rfl
   |cons c ls ih=>
    intro k j hl hv;simp only[Z1b,Z07] at hl;obtain⟨y,n,rfl,h1,hop⟩:=d6 hl.1 hv;rw[Fo.starts,ih n _ hl.2 h1];rfl
  rw[hb,e,f2];refine⟨aa,q2,q3,?_,aa⟩;rw[hs ls _ _ hl hv4];congr 1;omega
 rcases ho with ho|ho
 ·rw[ho] at h2
  exact key [110,105,105] rfl h2 (by unfold dw;rw[if_neg (by rw[ho];decide)];rfl)
 ·rw[ho] at h2
  exact key [110,110,105,105] rfl h2 (by unfold dw;rw[if_pos ho];rfl)
theorem GR (H:PrO p) (ha:t.At p 0) (hv:t.V (List.replicate t.cnt (false,68))) (hs:t.size=p.length) (hi:i<t.size) (ho:(p.getD i dN).op=16\/(p.getD i dN).op=17) {c:Nat} (hc:c∈D_ p t i):
 c+1<p.length/\((p.getD c dN).op=18->c+2<p.length)/\(0<=fS p c/\fS p c<=8388608)/\IntKind.i64.wrap (p.getD (c+1) dN).int=(p.getD (c+1) dN).int/\((p.getD c dN).op=18->1<=fS p c/\fS p c<=256):=by
 obtain⟨b1,b2,b3,b4,b5⟩:=rW ha hv hi ho;have hr:=bD hc;have hcl:c<p.length:=aa;obtain⟨sl,hsl,g1⟩:=dG b2 b3 hc;have:=(Z3b.1 hsl).2;subst this;have hop:=ma g1.1.1;have hn:=H.hN c hcl;have hor:=H.hO c hcl;unfold jH at hn;have i1:=ca H.hI (c+1);have i2:=ca H.hI (c+2)
 rcases hop with h18|h19
 ·have hz:fS p c=ai p (c+2):=if_pos h18
  have hb:=vY hor h18;have hc2:c+2<p.length:=hn.2.2.2.1 (.inr (.inl h18))
  have h1:1<=ai p (c+2):=by
   have h2:(decide (ai p (c+2)=0)||decide (256<ai p (c+2)))=false:=by
    have h:=hor;unfold aK at h;rw[h18] at h;exact h
   simp only[Z2y,decide_eq_false_iff_not] at h2;have i2:0<=ai p (c+2):=i2;omega
  have hk:=g1.2.1;rw[h18] at hk;obtain⟨y,n,e,_,hyo⟩:=d6 (c:=115) ac hk
  have hat:p.getD (c+1) dN=y:=by
   obtain⟨_,hk2,_,_,_⟩:=bL ha hv (aa:c<t.size) aa;have e2:=(cl ha (Z08 _) (aa:dw p i<0+t.size) (aa:dw p i<c) aa ini).1;rw[e2,e] at hk2;exact At.get hk2
  have hy:(p.getD (c+1) dN).int=0:=by
   rw[hat];rw[e] at hk;have hf:=hk.1.2.1;have ha3:=hk.1.1
   have hy3:y.op=3:=by
    unfold bn at ha3
    simpa using ha3
   unfold bP at hf;rw[hy3] at hf;simp only[Z07] at hf
   simpa using hf.1
  rw[hz];unfold ai at hb h1 |-;exact⟨aa,λ_=>hc2,⟨aa,aa⟩,by rw[hy];rfl,λ_=>⟨h1,hb⟩⟩
 ·have hz:fS p c=ai p (c+1):=if_neg aa
  have hb:=vX hor h19;have hc2:c+1<p.length:=hn.2.2.2.2.1 (.inl h19);rw[hz];unfold ai at hb |-;exact⟨hc2,λh=>by omega,⟨i1,hb⟩,ae aa aa,λh=>by omega⟩
theorem fd_R (H:PrO p) (ha:t.At p 0) (hv:t.V (List.replicate t.cnt (false,68))) (hs:t.size=p.length) (hi:i<t.size) (ho:(p.getD i dN).op=16\/(p.getD i dN).op=17) (num:Int):
 FdR p ⟨num,i,0,if (p.getD i dN).op=17 then 0 else-1⟩ (D_ p t i) (jZ p i) (px p i):=by
 obtain⟨b1,b2,b3,b4,b5⟩:=rW ha hv hi ho;obtain⟨c1,c2,c3⟩:=CI H aa ho;have hk1:=eh H.hp ha hv hs hi;have hk2:=eh H.hp ha hv hs b1;rw[b4] at hk1;refine⟨⟨i,dw p i,_,rfl,hk1,hk2,aa,?_,?_,rfl,rfl⟩,?_,λc hc=>?_,aa,aa,c2,c3,?_⟩
 ·unfold dw
  rcases ho with ho|ho<;>rw[ho]<;>rfl
 ·unfold dw
  rcases ho with ho|ho
  ·rw[ho];simp[Z31]
  ·rw[ho];simp[Z31]
 ·unfold D_
  rw[bp];have:=Fo.cnt_le (t.kid 0 (dw p i));have:=H.hp;omega
 ·obtain⟨d1,d2,d3,d4,_⟩:=GR H ha hv hs hi ho hc
  exact⟨d1,d2,d3,d4⟩
 ·rcases ho with ho|ho
  ·rw[ho];exact .inl rfl
  ·rw[ho];exact .inr (by show (0:Int)<=(if (17:Int)=17 then 0 else-1);decide)
end
end
theorem zJ (p:List Nd) (hacc:FC Tryz.prog 82 [al p] 0 [] (bV false) 0 []) (O:List Ro) (T:List Rt) (K:List Rk) (nx nh:Int):
 FC Tryz.prog 45 [.s (.ptr (some (0,0))),al p] 7 (Bh O T K nx nh) (Es 0 1) 13 (Ec O T K nx nh):=by
 refine wW Tryz.func45 ?_
 repeat'(first|exact y0|refine y1 ?_|refine y2 ?_ ?_|refine y4 λh=>?_|refine wX 82 (bo hacc ?_)|refine y3 ?_|exact y5|fail)
 all_goals exact Fin.zm (.inl rfl) rfl rfl rfl rfl rfl rfl rfl
theorem zK (p:List Nd) (hw:pn p) (hI:pR p):∃ G:Dgs,G.length<=1000000000/\FC Tryz.prog 65 [al p] 0 [] (mP G) 0 []/\FC Tryz.prog 23 [al p] 0 [] (mP G) 0 []/\
 (C6 G->PrO p/\∃ t:Fo,t.At p 0/\t.V (List.replicate t.cnt (false,68))/\t.size=p.length/\EOK p (bZ t)/\FC Tryz.prog 68 [al p] 0 [] (.s (.frz (λk=>[.int .i64 (((bZ t).getD k 0:Nat):Int)]) 1 (bZ t).length)) 0 []/\
   ∀ i,i<t.size->eS (p.getD i dN).op=true->i+1<p.length/\ao (t.kid 0 i)=(ah (p.getD (i+1) dN).str).1/\(aq (aC t i).sc (ah (p.getD (i+1) dN).str).1).2=true):=by
 have hwN:mS p:=λx hx=>by have:=hw x hx;omega
 cases h:cy p with
 |false=>exact⟨[(0,1)],ac,Dq p hwN h,FP p hw h,λe=>by have:=e (0,1) (Z0m.2 rfl);cases this⟩
 |true=>
  obtain⟨hp,t,ha,hv,hd,hs⟩:=j8 h;have hck:FC Tryz.prog 65 [al p] 0 [] (mP (d_ (jA p t))) 0 []:=qu p hwN hI h hp t ha hv hs;have hG:=Bm hp ha hv hs;have hrk:=Dp hp hw hI h ha hv hs;rw[<-wZ ha hv hs] at hrk;refine⟨_,hG,hck,hrk,λh6=>⟨⟨hp,hwN,hI,λj hj=>Dx (Dw h6) j hj,λj hj=>?_⟩,t,ha,hv,hs,uU ha hv hs,?_,λi hi ho=>?_⟩⟩
  ·obtain⟨sl,h1,h2⟩:=cC ha hv (Z08 _) (aa:j<0+t.size)
   exact v_ h1 h2
  ·rcases Z21 p.length with e|e
   ·obtain rfl:=Z15 e
    cases t with
    |nil=>exact CQ
    |cons x k n=>simp only[Fo.size,Z0e] at hs;omega
   ·exact CR p hp e t ha hv hs
  ·have hop:(p.getD i dN).op=10\/bQ (p.getD i dN).op=true:=by
    unfold eS at ho;unfold bQ;simp only[decide_eq_true_eq] at ho |-;omega
   obtain⟨g1,g2,_⟩:=xW ha hv hi hop;refine⟨g1,g2,?_⟩
   cases e:(aq (aC t i).sc (ah (p.getD (i+1) dN).str).1).2 with
   |true=>rfl
   |false=>
    have hb:ie p t i=true:=by
     unfold ie BM;rw[g2,e]
     rcases hop with h|h
     ·rw[h];rfl
     ·rw[h];rfl
    have hm:(i,2)∈jA p t:=(kI ha hv hs (i,2)).2 (.inl ⟨i,hi,by unfold Aa;rw[if_pos hb];exact .head _⟩);have:=Dw h6 (i,2) hm;cases this
def bY (s:Int):List Tb->List Rt
 |[]=>[]
 |x::t=>(s,x.p)::bY (s+1) t
theorem kF:∀ (T:List Tb) (s:Int),(bY s T).length=T.length
 |[],_=>rfl
 |x::t,s=>by rw[bY,Z04,kF t,Z04]
theorem ol:∀ (T U:List Tb) (s:Int),bY s (T++U)=bY s T++bY (s+T.length) U
 |[],U,s=>by simp[bY]
 |x::t,U,s=>by
  rw[Z25,bY,bY,ol t U,Z25,Z04]
  push_cast
  rw[show s+1+(t.length:Int)=s+((t.length:Int)+1) by omega]
theorem iJ:∀ (T:List Tb) (s:Int) (j:Nat),j<T.length->((bY s T).getD j dT).2=(T.getD j tZ).p
 |[],_,_,h=>by simp at h
 |x::t,s,0,_=>rfl
 |x::t,s,j+1,h=>iJ t (s+1) j (by simpa using h)
theorem ta:∀ (T:List Tb) (s:Int) (k j:Nat),j<T.length->nN (s+j) k (bY s T)=((k+j:Nat):Int)
 |[],_,_,_,h=>by simp at h
 |x::t,s,k,0,_=>by rw[bY,nN,if_pos an];rfl
 |x::t,s,k,j+1,h=>by
  rw[bY,nN,if_neg (by simp only;push_cast;omega)];have:=ta t (s+1) (k+1) j (by simpa using h);rw[show s+1+(j:Int)=s+((j+1:Nat):Int) by push_cast;omega] at this;rw[this];congr 1;omega
theorem Jd {E:List Ent} {T:List Tb} (hr:RegE T E) {a:Int} {y:Ent} (hy:gD a (aA 0 E)=some y) (ho:y.op=15):
 RegR (aA 0 E) (bY 1 T) a (bT T (E.getD a.toNat eZ) 2) (bT T (E.getD a.toNat eZ) 3) (bT T (E.getD a.toNat eZ) 4)/\0<=bT T (E.getD a.toNat eZ) 3/\bT T (E.getD a.toNat eZ) 3<=9223372036854775808/\0<=bT T (E.getD a.toNat eZ) 4/\bT T (E.getD a.toNat eZ) 4<=1048576:=by
 have hy':=hy;rw[je] at hy';split at hy'
 ·rename_i h0
  have e0:(a-((0:Nat):Int)).toNat=a.toNat:=an;rw[e0] at hy'
  have hlt:a.toNat<E.length:=by
   rcases Z0a a.toNat E.length with h|h
   ·exact h
   ·rw[Z0b h] at hy';cases hy'
  have hx:zb (E.getD a.toNat eZ)=y:=by
   rw[Z01 hlt] at hy';rw[Z00,Z01 hlt];exact Z1c hy'
  have hop:(E.getD a.toNat eZ).op=15:=by rw[<-ho,<-hx];rfl
  obtain⟨⟨j,nd,g1,g2,g3,g4,g5,g6,g7⟩,s0,s1,b0,b1,l0,l1⟩:=hr a.toNat hlt hop;refine⟨⟨⟨y,j,nd,hy,?_,by rw[kF];exact g2,by rw[<-hx];exact g3,by rw[iJ _ _ _ g2];exact g4,by rw[iJ _ _ _ g2];exact g5,by rw[iJ _ _ _ g2];exact g6,by rw[iJ _ _ _ g2];exact g7⟩,s0,s1⟩,b0,b1,l0,l1⟩;rw[<-hx];show nN (E.getD a.toNat eZ).tab 0 _=_;rw[g1,ta T 1 0 j g2,Z0c]
 ·cases hy'
end Go.Proofs.YtegjgpldfgjoiaaGreatDoor
