import Derived.Test.YtegjgpldfgjoiaaGreatDoorCnD47
import Derived.Test.YtegjgpldfgjoiaaGreatDoorCnD44
set_option linter.all false
set_option maxHeartbeats 40000000
set_option maxRecDepth 100000
namespace Go.Proofs.YtegjgpldfgjoiaaGreatDoor
open Go Ab
section
variable {s:By} {sc:Pth}
theorem xx {x:By} (h:ak x=(⟨false,0,[s]⟩,true)):x=s:=by
 unfold ak at h;split at h
 ·have:=(jH h).1;cases this
 ·rename_i hc
  have h1:=(jH h).1
  have hx:(cI x [92]).1=x:=by unfold cI at hc |-;split<;>simp_all
  rw[hx] at h1;simp only[Pth.mk.injEq] at h1;obtain⟨_,h2,h3⟩:=h1
  have hu:(cj x).2=x:=by
   cases x with
   |nil=>rfl
   |cons b l=>
    unfold cj at h2 |-;by_cases hb:b=94
    ·rw[if_pos hb] at h2;simp only at h2;omega
    ·rw[if_neg hb]
  rw[hu] at h3;split at h3
  ·cases h3
  ·have:=jq 46 x
   rw[<-h3] at this;exact this.symm.trans f_
theorem AB {b r:Pth} (h:(au b r).2=true):bz b=true:=by
 unfold au at h;split at h
 ·cases h
 ·rename_i hh
  cases e:bz b<;>simp_all
theorem Ay (h:(au sc ⟨false,0,[s]⟩).2=true):(au sc ⟨false,0,[s]⟩).1=⟨true,0,sc.segs++[s]⟩:=by
 unfold au at h |-;split
 ·rename_i hh;rw[if_pos hh] at h;cases h
 ·rename_i hh
  rw[if_neg hh] at h;simp only[Z0l,if_false] at h |-;split
  ·rename_i h2;rw[if_pos h2] at h;cases h
  ·simp
theorem B9 (h:bz sc=true):(⟨true,0,sc.segs⟩:Pth)=sc:=by
 obtain⟨a1,a2,_⟩:=cy h;obtain⟨r,u,l⟩:=sc;simp only at a1 a2;subst a1;subst a2;rfl
theorem uq (h:bz ⟨true,0,sc.segs++[s]⟩=true) (hs:bz sc=true):aW ⟨true,0,sc.segs++[s]⟩=(sc,true):=by
 unfold aW;rw[if_neg (by rw[h];simp)];have:(sc.segs++[s]).take ((sc.segs++[s]).length-1)=sc.segs:=av;simp only[this,B9 hs]
theorem DD {l:List By} (hv:bz ⟨true,0,l++[s]⟩=true) (h1:s≠[95,83,66]) (h2:s≠[95,71,80,69]):∀ x∈E0,x.path≠aH ⟨true,0,l++[s]⟩:=by
 have hv':aA ⟨true,0,l++[s]⟩=true:=by unfold bz at hv;simpa using hv
 obtain⟨_,_,_,_,v5,_⟩:=aG hv';have hx:aN s=true:=Z0i.1 v5 s av;have hl:=dG hx
 have key:Lib.join (l++[s]) [46]≠[]/\Lib.join (l++[s]) [46]≠[95,83,66]/\Lib.join (l++[s]) [46]≠[95,71,80,69]:=by
  rw[ld]
  by_cases e:l=[]
  ·rw[if_pos e]
   exact⟨λe=>by rw[e] at hl;simp at hl,h1,h2⟩
  ·rw[if_neg e]
   have hm:(46:UInt8)∈Lib.join l [46]++[46]++s:=av;exact⟨λe=>by rw[e] at hm;exact absurd hm ac,λe=>by rw[e] at hm;exact absurd hm ac,λe=>by rw[e] at hm;exact absurd hm ac⟩
 have hf:aH ⟨true,0,l++[s]⟩=92::Lib.join (l++[s]) [46]:=by unfold aH;rw[if_pos hv'];rfl
 rw[hf];intro x hx e;unfold E0 at hx;simp only[Z0h,Z3t,or_false] at hx
 rcases hx with rfl|rfl|rfl
 ·exact key.1 (List.cons.inj e).2.symm
 ·exact key.2.1 (List.cons.inj e).2.symm
 ·exact key.2.2 (List.cons.inj e).2.symm
section
variable {p:List Nd} {num:Int} {t:Fo}
theorem wF (ha:t.At p 0) {cs:List (Bool×Int)} (hv:t.V cs) {i:Nat} (hi:i<t.size) (hd:bw (p.getD i dN).op=true):
 ak (p.getD (i+1) dN).str=(⟨false,0,[(p.getD (i+1) dN).str]⟩,true)/\aw (t.kid 0 i)=⟨false,0,[(p.getD (i+1) dN).str]⟩/\i+1<p.length:=by
 unfold bw at hd;rw[decide_eq_true_eq] at hd;obtain⟨_,q1,q2,_,_⟩:=bQ ha hv hi aa
 obtain⟨r,e⟩:∃ r,dj (aq (p.getD i dN).op (p.getD i dN).kids).1=(false,115)::r:=by
  generalize (p.getD i dN).op=o at hd;have:o=11\/o=12\/o=13\/o=14\/o=15\/o=18\/o=20\/o=21:=aa
  rcases this with h|h|h|h|h|h|h|h<;>subst h<;>exact⟨_,rfl⟩
 rw[e] at q2;generalize t.kid 0 i=k at q1 q2
 cases k with
 |nil=>exact q2.elim
 |cons y ky n=>
  obtain⟨⟨h1,h2,_⟩,_,_⟩:=q2;have hy:p.getD (i+1) dN=y:=At.get q1;have hlt:i+1<p.length:=At.lt q1;rw[hy]
  have h3:y.op=3:=by unfold bn at h1;simpa using h1
  unfold bM at h2;simp[h3] at h2;obtain⟨_,h4,h5⟩:=h2
  have key:ak y.str=(⟨false,0,[y.str]⟩,true):=by
   cases hp:ak y.str with|mk q ok
   rw[hp] at h4 h5;simp only at h4 h5;subst h4;obtain⟨r,u,l⟩:=q;unfold ud at h5;simp at h5;obtain⟨⟨rfl,rfl⟩,h6⟩:=h5
   obtain⟨s,rfl⟩:∃ s,l=[s]:=by
    match l,h6 with
    |[s],_=>exact⟨s,rfl⟩
   rw[xx hp]
  exact⟨key,by show (ak y.str).1=_;rw[key],hlt⟩
theorem nO:∀ (m:Bool) (u:Fo) (j:Nat) (sc:Pth) (E:List Ent) (fs:List Fd),u.At p j->(∀ i,j<=i->i<j+u.size->(p.getD i dN).op≠16/\(p.getD i dN).op≠17)->(aY p num m u j sc E fs).2.1=fs
 |true,.nil,_,_,_,_,_,_=>rfl
 |false,.nil,_,_,_,_,_,_=>rfl
 |true,.cons x k n,j,sc,E,fs,ha,h=>by
  rw[aY];split
  ·exact nO false k (j+1) sc E fs ha.2.2.1 λi h1 h2=>h i aa (by simp only[Fo.size];omega)
  ·exact nO true n (j+1+k.size) sc E fs ha.2.2.2 λi h1 h2=>h i aa (by simp only[Fo.size];omega)
 |false,.cons x k n,j,sc,E,fs,ha,h=>by
  have h0:=h j (Z02 _) (by simp only[Fo.size];omega);rw[At.get ha] at h0
  have hk:=λsc E fs=>nO true k (j+1) sc E fs ha.2.2.1 λi h1 h2=>h i aa (by simp only[Fo.size];omega)
  have h1:(gW p num x k j sc E fs λsc E fs=>aY p num true k (j+1) sc E fs).2.1=fs:=by
   unfold gW;by_cases h10:x.op=10
   ·rw[if_pos h10]
    split
    ·rfl
    ·split
     ·rfl
     ·exact hk _ _ _
   ·rw[if_neg h10,if_neg h0.1,if_neg h0.2]
    split
    ·rfl
    ·split
     ·exact hk _ _ _
     ·rfl
  rw[aY];split
  ·rw[nO false n (j+1+k.size) sc _ _ ha.2.2.2 λi h1 h2=>h i aa (by simp only[Fo.size];omega)]
   exact h1
  ·exact h1
theorem Gx (ha:t.At p 0) (h10:∀ i,i<t.size->(p.getD i dN).op≠10) (j:Nat) (hj:j<t.size):(aD t j).sc=GZ\/∃ u,u<j/\((p.getD u dN).op=11\/(p.getD u dN).op=12)/\xC p t u=true/\(aD t j).sc=(au (aD t u).sc (aw (t.kid 0 u))).1:=by
 induction j using Nat.strongRecOn with
 |_ j ih=>
  rcases dH ha hj with ⟨_,h2⟩|⟨m,h2,h3,h4⟩
  ·left;rw[h2];rfl
  ·obtain⟨_,_,e⟩:=ee ha aa h4
   have hsc:(aD t j).sc=if ((p.getD m dN).op=10\/(p.getD m dN).op=11\/(p.getD m dN).op=12)/\(au (aD t m).sc (aw (t.kid 0 m))).2=true then (au (aD t m).sc (aw (t.kid 0 m))).1 else (aD t m).sc:=by rw[e];rfl
   by_cases hc:((p.getD m dN).op=10\/(p.getD m dN).op=11\/(p.getD m dN).op=12)/\(au (aD t m).sc (aw (t.kid 0 m))).2=true
   ·rw[if_pos hc] at hsc
    exact .inr ⟨m,h2,hc.1.resolve_left (h10 m aa),hc.2,hsc⟩
   ·rw[if_neg hc] at hsc
    rw[hsc]
    rcases ih m h2 aa with g|⟨u,u1,u2,u3,u4⟩
    ·exact .inl g
    ·exact .inr ⟨u,aa,u2,u3,u4⟩
def kyE (x:Ent):By×Int×Int:=(x.path,x.op,x.node)
def kyD (d:Dc):By×Int×Int:=(d.path,d.op,(d.node:Int))
theorem sj {m:Nat} {d:Dc}:d∈gY p t m↔∃ u,u<m/\aV p t u≠[]/\d=⟨aV p t u,(p.getD u dN).op,u⟩:=by
 unfold gY;rw[Z2h];constructor
 ·rintro⟨u,hu,hd⟩
  unfold lB at hd;split at hd
  ·cases hd
  ·exact⟨u,Z29.1 hu,‹_›,Z0m.1 hd⟩
 ·rintro⟨u,hu,hn,rfl⟩
  refine⟨u,Z29.2 hu,?_⟩;unfold lB;rw[if_neg hn];exact Z0m.2 rfl
theorem r7 (hdup:∀ i,i<t.size->jf p t i=false) {a b:Nat} (ha:a<t.size) (hb:b<t.size) (hn:aV p t a≠[]) (e:aV p t a=aV p t b):a=b:=by
 have key:∀ a b,b<t.size->a<b->aV p t a≠[]->aV p t a=aV p t b->False:=λa b hb hab hn e=>by
  have h:=hdup b hb;unfold jf at h;rw[decide_eq_true (by rw[<-e];exact hn),Z1r,nC.2 ⟨a,hab,e⟩] at h;cases h
 rcases Z3g a b with h|h|h
 ·exact (key a b hb h hn e).elim
 ·exact h
 ·exact (key b a ha h (by rw[<-e];exact hn) e.symm).elim
theorem wG (ha:t.At p 0) (hs:t.size=p.length) (K:Nat) (hK:K=1000000000):∀ m,m<=t.size->(gY p t m).length*K<=q8 (p.take m)
 |0,_=>by simp[gY,q8]
 |m+1,h=>by
  have ih:=wG ha hs K hK m aa;have hm:m<p.length:=aa;rw[i6,Z03,List.take_succ_eq_append_getElem hm,kx,Z2q];refine Nat.add_le_add ih ?_;unfold lB;split
  ·simp
  ·rename_i hn
   have hd:=((fT ha aa).1 hn).1;rw[Z00,Z01 hm] at hd;unfold bw at hd;rw[decide_eq_true_eq] at hd;show 1*K<=wE p[m].op+0;rw[Nat.one_mul,Z0p];unfold wE;rw[if_pos (by exact hd),hK];exact Z02 _
theorem Bw (m:Nat):q8 (p.take m)<=q8 p:=by
 have:=kx (p.take m) (p.drop m);rw[Z2m] at this;omega
theorem Bx (ha:t.At p 0) (hs:t.size=p.length) (hdc:q8 p<=1000000000000) {m:Nat} (hm:m<=t.size):(gY p t m).length<=1000:=
 Nat.le_of_mul_le_mul_right (c:=1000000000) (Z1z (wG ha hs _ rfl m hm) (Z1z (Bw m) hdc)) ac
theorem HV:∀ x∈E0,x.op=10:=ac
theorem root_0:RootE E0:=⟨_,_,rfl,rfl⟩
theorem tk (ha:t.At p 0) {cs:List (Bool×Int)} (hv:t.V cs) (hs:t.size=p.length) (h10:∀ i,i<t.size->(p.getD i dN).op≠10) (hbad:∀ i,i<t.size->gM p t i=false) (hdup:∀ i,i<t.size->jf p t i=false) (hstr:∀ i,(p.getD i dN).str≠[95,83,66]/\(p.getD i dN).str≠[95,71,80,69]) (hdc:q8 p<=1000000000000):
 ∀ m,m<=t.size->∃ F:List Ent,(List.range m).foldl (jD p num t 0 ini) (l4 E0 0)=l4 (E0++F) 0/\F.map kyE=(gY p t m).map kyD
 |0,_=>⟨[],by rw[Z0u];rfl,rfl⟩
 |m+1,h=>by
  obtain⟨F,h1,h2⟩:=tk ha hv hs h10 hbad hdup hstr hdc m aa;have hm:m<t.size:=aa;rw[Z3a,Z4a,h1,i6];show ∃ G:List Ent,jD p num t 0 ini (l4 (E0++F) 0) m=_/\_;by_cases hd:bw (p.getD m dN).op=true
  ·obtain⟨hp,hn,hlt⟩:=wF ha hv hm hd
   obtain⟨g1,g2⟩:=hstr (m+1)
   obtain⟨s,hst⟩:∃ s,(p.getD (m+1) dN).str=s:=⟨_,rfl⟩
   rw[hst] at hp hn g1 g2
   have hok:xC p t m=true:=by
    have:=hbad m hm;unfold gM at this;rw[hd] at this
    simpa using this
   have hj:(au (aD t m).sc ⟨false,0,[s]⟩).2=true:=by unfold xC at hok;rw[hn] at hok;exact hok
   have hq:=Ay hj;have hab:=vo hj;rw[hq] at hab;have hsc:=AB hj;have hne:=(fT ha hm).2 ⟨hd,hok⟩
   have hpt:aV p t m=aH ⟨true,0,(aD t m).sc.segs++[s]⟩:=by rw[fU ha hm,if_pos ⟨hd,hok⟩,hn,hq]
   have hE:lB p t m=[⟨aV p t m,(p.getD m dN).op,m⟩]:=by unfold lB;rw[if_neg hne]
   have key:∀ x∈F,∃ u,u<m/\aV p t u≠[]/\x.path=aV p t u/\x.op=(p.getD u dN).op:=by
    intro x hx;have hx:kyE x∈(gY p t m).map kyD:=h2▸List.mem_map_of_mem hx;obtain⟨d,hd,he⟩:=Z1d.1 hx;obtain⟨u,hu,hn,rfl⟩:=sj.1 hd;simp only[kyE,kyD,Z0j] at he;exact⟨u,hu,hn,he.1.symm,he.2.1.symm⟩
   have at_k:∀ {k:Nat} {q:By},je 0 (E0++F) q=some k->(E0++F).getD k eZ∈E0++F/\((E0++F).getD k eZ).path=q:=λ{k q} e=>by
    obtain⟨_,k1,k2⟩:=iw e;rw[Z30] at k2;rw[Z0c] at k1;refine⟨?_,k2⟩;rw[Z00,Z01 k1];exact Z0s k1
   have hnew:je 0 (E0++F) (aH ⟨true,0,(aD t m).sc.segs++[s]⟩)=none:=by
    cases e:je 0 (E0++F) (aH ⟨true,0,(aD t m).sc.segs++[s]⟩) with
    |none=>rfl
    |some k=>
     exfalso;obtain⟨k1,k2⟩:=at_k e
     rcases Z0w.1 k1 with h|h
     ·exact DD hab g1 g2 _ h k2
     ·obtain⟨u,hu,hn,e1,_⟩:=key _ h
      have:=r7 hdup (show u<t.size by omega) hm hn (by rw[<-e1,k2,hpt]);omega
   have hcon:∃ c,dS (E0++F) (aD t m).sc=(c,true):=by
    rcases Gx ha h10 m hm with e|⟨u,hu,hop,huk,e⟩
    ·refine⟨0,?_⟩
     rw[e];unfold dS
     have:je 0 (E0++F) (aH GZ)=some 0:=by
      show je 0 (dU [92] 10 (-1) 0 0::_) [92]=some 0;rw[je,if_pos (show (dU [92] 10 (-1) 0 0).path=[92] from rfl)]
     rw[this];rfl
    ·have hdu:bw (p.getD u dN).op=true:=by unfold bw;rw[decide_eq_true_eq];omega
     have hnu:=(fT ha (show u<t.size by omega)).2 ⟨hdu,huk⟩
     have hpu:aV p t u=aH (aD t m).sc:=by rw[fU ha aa,if_pos ⟨hdu,huk⟩,e]
     have hmem:kyD ⟨aV p t u,(p.getD u dN).op,u⟩∈F.map kyE:=by
      rw[h2];exact List.mem_map_of_mem (sj.2 ⟨u,hu,hnu,rfl⟩)
     obtain⟨x,hx,he⟩:=Z1d.1 hmem;simp only[kyE,kyD,Z0j] at he;unfold dS
     cases e2:je 0 (E0++F) (aH (aD t m).sc) with
     |none=>exact absurd (he.1.trans hpu) (sI e2 x (Z47 _ hx))
     |some k=>
      obtain⟨k1,k2⟩:=at_k e2;refine⟨(k:Int),?_⟩;simp only;rw[if_pos];unfold xB;rw[decide_eq_true_eq]
      rcases Z0w.1 k1 with h|h
      ·exact .inl (HV _ h)
      ·obtain⟨u',hu',hn',e1,e3⟩:=key _ h
       have:=r7 hdup (show u'<t.size by omega) (show u<t.size by omega) hn' (by rw[<-e1,k2,hpu]);subst this;rw[e3];exact .inr hop
   have hlen:(E0++F).length<1024:=by
    have:=congrArg List.length h2;rw[Z0z,Z0z] at this;have h3:=Bx ha hs hdc (m:=m) aa;rw[Z03,show E0.length=3 from rfl];omega
   obtain⟨c,hc⟩:=hcon
   have hjn:bY p (m+1) (aD t m).sc=(⟨true,0,(aD t m).sc.segs++[s]⟩,true):=by
    unfold bY;rw[hst,hp];simp only[if_true];exact Prod.ext hq hj
   have hadd:(bF p num (E0++F) m (aD t m).sc).1=(E0++F)++[dU (aH ⟨true,0,(aD t m).sc.segs++[s]⟩) (p.getD m dN).op c num m]/\(bF p num (E0++F) m (aD t m).sc).2.2.2=0:=by
    unfold bF;rw[hjn];simp only[Z3x,if_false];rw[hnew,uq hab hsc];simp only[Z2b,Z0l,Z3x,if_false];rw[hc];simp only[Z3x,if_false];rw[if_pos hlen];exact⟨rfl,rfl⟩
   refine⟨F++[dU (aH ⟨true,0,(aD t m).sc.segs++[s]⟩) (p.getD m dN).op c num m],?_,?_⟩
   ·rw[mP hd (by rw[hst,hp];exact hj) root_0.app]
    show l4 (bF p num (E0++F) m (aD t m).sc).1 (bF p num (E0++F) m (aD t m).sc).2.2.2=_;rw[hadd.1,hadd.2,Z14]
   ·rw[Z0d,Z0d,h2,hE,hpt];rfl
  ·have hpe:aV p t m=[]:=by rw[fU ha hm,if_neg (λh=>hd h.1)]
   refine⟨F,?_,?_⟩
   ·refine gw ?_
    have:=h10 m hm;unfold bw at hd;unfold iJ;rw[decide_eq_false_iff_not];simp only[decide_eq_true_eq] at hd;omega
   ·unfold lB
    rw[if_pos hpe,Z0u];exact h2
theorem sf:∀ {E F:List Ent} {s:Nat},dh s E=dh s F->E.map kyE=F.map kyE
 |[],[],_,_=>rfl
 |[],y::F,_,h=>by cases h
 |x::E,[],_,h=>by cases h
 |x::E,y::F,s,h=>by
  rw[dh,dh] at h;obtain⟨h1,h2⟩:=List.cons.inj h;rw[Z13,Z13,sf h2];have h3:=congrArg (λx:Int×Ent=>kyE x.2) h1;exact congrArg (·::F.map kyE) h3
theorem DP (ha:t.At p 0) (hv:t.V (List.replicate t.cnt (false,68))) (hs:t.size=p.length) (h10:∀ i,i<t.size->(p.getD i dN).op≠10/\(p.getD i dN).op≠16/\(p.getD i dN).op≠17) (hbad:∀ i,i<t.size->gM p t i=false) (hdup:∀ i,i<t.size->jf p t i=false) (hstr:∀ i,(p.getD i dN).str≠[95,83,66]/\(p.getD i dN).str≠[95,71,80,69]) (hdc:q8 p<=1000000000000):
 (aY p num false t 0 GZ E0 []).2.2=0/\(aY p num false t 0 GZ E0 []).2.1=[]/\(aY p num false t 0 GZ E0 []).1.map kyE=E0.map kyE++(gY p t t.size).map kyD:=by
 obtain⟨F,h1,h2⟩:=tk (num:=num) ha hv hs (λi hi=>(h10 i hi).1) hbad hdup hstr hdc t.size (Z02 _)
 have hR:=(Bu (num:=num) (t.size+1) t 0 ini E0 [] (Z1t _) ha hv root_0 λi _ hi hd=>by
  have hi:i<t.size:=aa
  have hB:bw (p.getD i dN).op=true:=by
   have:=(h10 i hi).1;unfold iJ at hd;unfold bw;simp only[decide_eq_true_eq] at hd |-;omega
  have hb:=hbad i hi;obtain⟨hp,hn,_⟩:=wF ha hv hi hB;unfold gM xC at hb;rw[hB,hn] at hb;rw[hp]
  simpa using hb).1
 rw[<-Z4g,h1] at hR;have e1:=congrArg (λs:StR=>s.1) hR;have e2:=congrArg (λs:StR=>s.2.2) hR;exact⟨e2.symm,nO false t 0 GZ E0 [] ha λi _ hi=>(h10 i aa).2,(sf e1).symm.trans (by rw[Z0d,h2])⟩
end
end
