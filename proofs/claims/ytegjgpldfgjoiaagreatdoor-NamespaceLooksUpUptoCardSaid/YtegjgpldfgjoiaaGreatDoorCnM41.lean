import Derived.Test.YtegjgpldfgjoiaaGreatDoorCnM39
import Derived.Test.YtegjgpldfgjoiaaGreatDoorCnM29
import Derived.Test.YtegjgpldfgjoiaaGreatDoorCnM37
set_option linter.all false
namespace Go.Proofs.YtegjgpldfgjoiaaGreatDoor
open Go Ab
set_option maxRecDepth 100000
set_option maxHeartbeats 40000000
section
variable {us:List Nat} {j:Nat}
def uL (O:List Ro) (s nm:By) (aY:Int):Option Int:=match dA O s nm with
 |some a=>if ((gD a O).getD eZ).op=aY then some a else none
 |none=>none
def mH (F:Int->Int->Bool) (p:List Nd):List Nat->Int->Bool
 |[],_=>true
 |c::cs,b=>if (p.getD c dN).op=18/\F b (fS p c)=false then false else mH F p cs (b+fS p c)
def jG (p:List Nd):List Nat->Int
 |[]=>0
 |c::cs=>fS p c+jG p cs
theorem Gx (p:List Nd) (u:Int):∀ (cs:List Nat) (s:Sp),(fT p u cs s).b=s.b+jG p cs
 |[],s=>(Int.add_zero _).symm
 |c::cs,s=>by
  rw[fT,Gx p u cs,jG]
  split<;>simp only<;>omega
theorem AZ (p:List Nd) (u:Nat):∀ (cs:List Nat) (s:Sp),u∉cs->(fT p u cs s).bit=s.bit/\(fT p u cs s).len=s.len/\(fT p u cs s).f=s.f
 |[],s,_=>⟨rfl,rfl,rfl⟩
 |c::cs,s,h=>by
  rw[fT,if_neg (λe=>h (by have e:c=u:=aa;rw[e];exact .head _))]
  exact AZ p u cs _ λe=>h (.tail _ e)
theorem A0 (p:List Nd):∀ (l:List Nat) (u:Nat) (r:List Nat) (s:Sp),u∉l->u∉r->(fT p u (l++u::r) s).bit=s.b+jG p l/\(fT p u (l++u::r) s).len=fS p u/\(fT p u (l++u::r) s).f=true
 |[],u,r,s,_,h=>by
  rw[Z1e,fT,if_pos rfl];obtain⟨h1,h2,h3⟩:=AZ p u r ⟨s.b+fS p u,s.b,fS p u,true⟩ h;exact⟨by rw[h1,jG];simp only;omega,h2,h3⟩
 |c::l,u,r,s,h1,h2=>by
  rw[Z25,fT,if_neg (λe=>h1 (by have e:c=u:=aa;rw[e];exact .head _))];obtain⟨g1,g2,g3⟩:=A0 p l u r {s with b:=s.b+fS p c} (λe=>h1 (.tail _ e)) h2;exact⟨by rw[g1,jG];simp only;omega,g2,g3⟩
abbrev EL (O:List Ro) (T:List Rt) (K:List Rk) (nx nh:Int):Hp:=[(0,some (qX 1 3 7 O.length T.length K.length nx nh)),(1,some (oR O)),(3,tR 3 T),(5,none),(7,kR 7 K)]
theorem BO {O:List Ro} {T:List Rt} {K:List Rk} {nx nh:Int}:eV 9 (EL O T K nx nh)=true:=by
 unfold EL tR kR;generalize T.flatMap qW=c1;generalize K.flatMap q9=c2
 cases c1<;>cases c2<;>rfl
section
variable {P:Program} {fn:Func} {env:List V} {O:List Ro} {T:List Rt} {K K':List Rk} {nx nh z z':Int} {e:Exit} {M:Hp} {m:Nat}
theorem Fin.ra (c:Nat) (hx:e=.ret\/e=.normal) (h0:lk M 0=some (qX 1 3 c O.length T.length K.length nx nh)) (h1:lk M 1=some (oR O)) (h3:lk M 3=tR 3 T) (h5:lk M c=kR c K) (hr:fU P fn env M=some (.s (.int .i64 z'))) (hn:ce (List.range 7++[c,c+1])=true) (hz:z'=z) (hk:K=K'):Fin P fn 7 (nI z) 9 (EL O T K' nx nh) e env m M:=by
 subst hz;subst hk;exact⟨hx,_,[c,c+1],VLe.refl _,EndOK.by hr ⟨h0,h1,MemP.op h3 (MemP.op h5 trivial)⟩ rfl BO rfl hn⟩
theorem Fin.rl (hx:e=.ret\/e=.normal) (h0:lk M 0=some (Bg O.length T.length K.length nx nh)) (h1:lk M 1=some (oR O)) (h3:lk M 3=tR 3 T) (h5:lk M 5=kR 5 K) (hr:fU P fn env M=some (.s (.int .i64 z'))) (hz:z'=z) (hk:K=K'):Fin P fn 7 (nI z) 9 (EL O T K' nx nh) e env m M:=by
 subst hz;subst hk;refine⟨hx,_,[5,6],VLe.refl _,EndOK.move hr ⟨h0,h1,MemP.op h3 (MemP.op h5 trivial)⟩ rfl BO rfl ?_ ?_⟩
 all_goals
  unfold EL tR kR;generalize T.flatMap qW=c1;generalize K.flatMap q9=c2
  cases c1<;>cases c2<;>rfl
end
theorem yF (p:List Nd):∀ a b:List Nat,jG p (a++b)=jG p a+jG p b
 |[],b=>(Z5n _).symm
 |c::a,b=>by rw[Z25,jG,jG,yF p a b];omega
theorem w5 {p:List Nd}:∀ {l:List Nat},(∀ c∈l,0<=fS p c/\fS p c<=8388608)->0<=jG p l/\jG p l<=8388608*l.length
 |[],_=>⟨Z2l _,Z2l _⟩
 |c::l,h=>by
  have h1:=h c (.head _)
  have h2:=w5 λc hc=>h c (.tail _ hc)
  rw[jG,Z04]
  push_cast
  omega
theorem FdR.of {p:List Nd} {x x':Rk} {wid upd:Int} (h:FdR p x us wid upd) (h1:x'.nd=x.nd) (h2:0<=x'.b↔0<=x.b) (h3:x'.b= -1\/0<=x'.b):FdR p x' us wid upd:=by
 obtain⟨q,a1,a2,a3,a4,a5,a6,_⟩:=h;obtain⟨i,blk,ks,q1,q2,q3,q4,q5,q6,q7⟩:=q
 have e:∀ (α:Type) (a b:α),(if 0<=x'.b then a else b)=if 0<=x.b then a else b:=λα a b=>by by_cases h:0<=x.b<;>simp[h,h2]
 exact⟨⟨i,blk,ks,h1.trans q1,q2,q3,q4,by rw[e Nat];exact q5,by rw[e (List Nat)];exact q6,q7⟩,a1,a2,a3,a4,a5,a6,h3⟩
def BB (p:List Nd) (num:Int) (O:List Ro) (K:List Rk) (i:Nat) (sc:Pth) (us:List Nat) (F16:Int->Int->Int->Bool) (F17:Int->Int->Bool):List Rk×Int:=
 if (p.getD i dN).op=17 then
  match uL O (aI sc) (p.getD (i+1) dN).str 18,uL O (aI sc) (p.getD (i+2) dN).str 18 with
  |some a,some b=>(K++[⟨num,i,a,b⟩],if mH F17 p us 0=true then 0 else 1)
  |_,_=>(K,6)
 else match uL O (aI sc) (p.getD (i+1) dN).str 15 with
  |some a=>(K++[⟨num,i,a,-1⟩],if mH (F16 a) p us 0=true then 0 else 1)
  |none=>(K,6)
theorem wR (h:j<us.length):us=us.take j++us.getD j 0::us.drop (j+1):=by
 have e:us.getD j 0=us[j]:=by rw[Z00,Z01 h];rfl
 rw[e,<-Z0k h,Z2m]
theorem oL (h:j<us.length):us.getD j 0∈us:=by
 rw[Z00,Z01 h];exact Z0s h
theorem JN (hn:us.Nodup) (h:j<us.length):us.getD j 0∉us.take j:=λe=>by
 have:=hn;rw[wR h] at this;exact (Z3p.1 this).2.2 _ e _ (.head _) rfl
theorem JM (hn:us.Nodup) (h:j<us.length):us.getD j 0∉us.drop (j+1):=λe=>by
 have:=hn;rw[wR h] at this;exact (Z4r.1 (Z3p.1 this).2.1).1 e
abbrev rfX (p:List Nd) (us:List Nat):List (Nat×V):=[(0,.s (.ptr (some (0,0)))),(1,al p),(13,.s (.ptr (some (7,0)))),(23,.s (d9 us)),(24,nI 0)]
abbrev IN (O:List Ro) (t0:Rt) (tt:List Rt) (K:List Rk) (x:Rk) (nx nh:Int):Hp:=[(0,some (qX 1 3 8 O.length (tt.length+1) (K.length+1) nx nh)),(1,some (oR O)),(3,tR 3 (t0::tt)),(7,some {cells:=[.int .i64 x.t,.int .i64 x.nd,.int .i64 x.a,.int .i64 x.b],ty:=143}),(8,kR 8 (K++[x]))]
def H9 (p:List Nd) (x:Rk) (us:List Nat) (wid upd sp ba ln b l:Int):Bool:=if 0<=x.b then eW 0 0 (vE (jG p us) wid) b l wid upd else eW sp ba ln b l wid upd
theorem Ep (p:List Nd) (hp:p.length<=2048) (O:List Ro) (T:List Rt) (nl:Nat) (nx nh:Int) (hO:O.length<=100000) (h0:0<O.length) (hT:T.length<=100000) (x:Rk) (us:List Nat) (wid upd sp ba ln:Int) (hf:FdR p x us wid upd)
 (hr:x.b= -1->RegR O T x.a sp ba ln/\0<=ba/\ba<=9223372036854775808/\0<=ln/\ln<=1048576) (hww:wid=1\/wid=2\/wid=4\/wid=8) (l r:List Nat) (c:Nat) (hus:us=l++c::r) (h1:c∉l) (h2:c∉r) (h3:1<=fS p c) (h4:fS p c<=256):
 ∃ a1 a2 a3 a4 a5 a6 a7 a8 a9:Int,spM p x us wid upd sp ba ln c=IV a1 a2 a3 a4 a5 a6 a7 a8 a9/\a4=jG p l/\a5=fS p c/\FC Tryz.prog 134 [.s (.ptr (some (0,0))),al p,.agg (q9 x),nI c] 7 (rsX O T nl nx nh) (.tup [.agg (IV a1 a2 a3 a4 a5 a6 a7 a8 a9),.s (.bool true)]) 7 (rsX O T nl nx nh)/\FC Tryz.prog 147 [.agg (IV a1 a2 a3 a4 a5 a6 a7 a8 a9)] 0 [] (bV (H9 p x us wid upd sp ba ln (jG p l) (fS p c))) 0 []:=by
 have hs:=Hl p hp O T nl nx nh hO h0 hT x us wid upd sp ba ln c hf λh=>(hr h).1
 have hb:=Gx p c us ⟨0,0,0,false⟩;have ha:=A0 p l c r ⟨0,0,0,false⟩ h1 h2;rw[<-hus] at ha;obtain⟨g1,g2,g3⟩:=ha
 have hl:l.length<=2048:=by have:=hf.un;rw[hus] at this;simp at this;omega
 have hbl:=w5 (p:=p) (l:=l) λc hc=>((hf.uk c (by rw[hus];exact Z3c _ hc)).2.2.1)
 have hbu:=w5 (p:=p) (l:=us) λc hc=>(hf.uk c hc).2.2.1
 have hul:=hf.un;rw[g3] at hs;unfold spM at hs |-;unfold H9;simp only[Z5n] at hb g1;rw[g1,g2,hb] at hs |-;have w0:=hf.w0;have w1:=hf.w1;have u0:=hf.u0;have u1:=hf.u1;by_cases hx:0<=x.b
 ·rw[if_pos hx] at hs |-
  rw[if_pos hx];refine⟨_,_,_,_,_,_,_,_,_,rfl,rfl,rfl,hs,?_⟩;have q1:0<=(jG p us+8*wid-1).tdiv (8*wid):=Z5r aa aa;have q2:(jG p us+8*wid-1).tdiv (8*wid)<=jG p us+8*wid-1:=Z5l _ aa;have q4:(jG p us+8*wid-1).tdiv (8*wid)<=68719476736:=aa
  have q3:0<=vE (jG p us) wid/\vE (jG p us) wid<=1099511627776:=⟨Z5y q1 aa,Int.le_trans (Int.mul_le_mul q4 w1 aa ac) ac⟩
  exact pU 0 0 _ _ _ wid upd x.a x.b ac ac q3.1 q3.2 hbl.1 aa h3 h4 u0 u1 hww
 ·rw[if_neg hx] at hs |-
  rw[if_neg hx];obtain⟨_,r1,r2,r3,r4⟩:=hr (by have:=hf.b0;omega);exact⟨_,_,_,_,_,_,_,_,_,rfl,rfl,rfl,hs,pU sp ba ln _ _ wid upd (-1) (-1) r1 r2 r3 aa hbl.1 aa h3 h4 u0 u1 hww⟩
theorem EQ (p:List Nd) (hp:p.length<=2048) (hw:pn p) (num:Int) (O:List Ro) (t0:Rt) (tt:List Rt) (K:List Rk) (nx nh:Int) (hO:O.length<=100000) (h0:0<O.length) (hT:(t0::tt).length<=100000) (hK:K.length<=100000) (i:Nat) (sc:Pth) (hsc:cR sc.segs) (hsl:(aI sc).length<=4398046511104)
 (hop:(p.getD i dN).op=16\/(p.getD i dN).op=17) (us:List Nat) (wid upd:Int) (hf:FdR p ⟨num,i,0,if (p.getD i dN).op=17 then 0 else-1⟩ us wid upd) (hi:i+5<p.length\/(p.getD i dN).op=16)
 (hww:wid=1\/wid=2\/wid=4\/wid=8) (hnd:us.Nodup) (hln:∀ c∈us,(p.getD c dN).op=18->1<=fS p c/\fS p c<=256)
 (sp ba ln:Int->Int) (hrg:∀ a y,gD a O=some y->y.op=15->RegR O (t0::tt) a (sp a) (ba a) (ln a)/\0<=ba a/\ba a<=9223372036854775808/\0<=ln a/\ln a<=1048576)
 (hp2:∀ nm,0<=(dA O (aI sc) nm).getD 0) (R:List Rk×Int) (hR:BB p num O K i sc us (λa b l=>eW (sp a) (ba a) (ln a) b l wid upd) (λb l=>eW 0 0 (vE (jG p us) wid) b l wid upd)=R):
 FC Tryz.prog 86 [.s (.ptr (some (0,0))),al p,nI i,gw sc,nI num] 7 (Bh O (t0::tt) K nx nh) (nI R.2) 9 (EL O (t0::tt) R.1 nx nh):=by
 have hfm:=jQ sc hsc;have hf0:=hf;obtain⟨⟨i',blk,ks,e1,hk1,hk2,e2,e3,e4,e5,e6⟩,hun,huk,w0,w1,u0,u1,hb0⟩:=hf;simp only at e1 e3 e4;have e1:i=i':=aa;subst e1;obtain⟨sr,su,ss⟩:=sc;unfold BB at hR;generalize aI ⟨sr,su,ss⟩=from_ at*;have hlk:=wn O (t0::tt).length K.length nx nh from_ (p.getD (i+1) dN).str hsl (fZ hw (i+1)) hO h0;have hlk2:=wn O (t0::tt).length K.length nx nh from_ (p.getD (i+2) dN).str hsl (fZ hw (i+2)) hO h0;have hob:=tV O (t0::tt).length K.length nx nh ((dA O from_ (p.getD (i+1) dN).str).getD 0) _ rfl hO h0;have hob2:=tV O (t0::tt).length K.length nx nh ((dA O from_ (p.getD (i+2) dN).str).getD 0) _ rfl hO h0
 have hf1:∀ nm aY,uL O from_ nm aY=if (dA O from_ nm).isSome=true/\((gD ((dA O from_ nm).getD 0) O).getD eZ).op=aY then some ((dA O from_ nm).getD 0) else none:=λnm aY=>by
  unfold uL
  cases dA O from_ nm<;>simp
 rw[hf1,hf1,hf1] at hR;have hp2:=hp2 (p.getD (i+2) dN).str;generalize dA O from_ (p.getD (i+1) dN).str=l1 at*;generalize dA O from_ (p.getD (i+2) dN).str=l2 at*;have hrg1:=hrg (l1.getD 0);generalize gD (l1.getD 0) O=o1 at*;generalize gD (l2.getD 0) O=o2 at*
 have hoo:∀ o:Option Ent,((o.getD eZ).op≠0->∃ y,o=some y):=λo h=>by
  cases o with
  |none=>exact absurd rfl h
  |some y=>exact⟨y,rfl⟩
 have hE:∀ o:Option Ent,∃ a1 a2 a3 a4 a5,IR (o.getD eZ)=[.str a1,.int .i64 a2,.int .i64 a3,.int .i64 a4,.int .i64 a5]/\a2=(o.getD eZ).op:=λo=>⟨_,_,_,_,_,rfl,rfl⟩
 obtain⟨x1,z1,x3,x4,x5,hx1,hz1⟩:=hE o1;obtain⟨v1,z2,v3,v4,v5,hx2,hz2⟩:=hE o2;rw[hx1] at hob;rw[hx2] at hob2;rw[<-hz1,<-hz2] at hR
 have hcase:(((p.getD i dN).op=16/\blk=i+4/\ks=[i+1,i+2,i+3,i+4]/\ ¬(l1.isSome=true/\z1=15)\/(p.getD i dN).op=17/\blk=i+5/\ks=[i+1,i+2,i+3,i+4,i+5]/\ ¬((l1.isSome=true/\z1=18)/\l2.isSome=true/\z2=18))/\R=(K,6))
  \/∃ (b:Int) (F:Int->Int->Bool),((p.getD i dN).op=16/\blk=i+4/\ks=[i+1,i+2,i+3,i+4]/\(l1.isSome=true/\z1=15)/\b= -1\/(p.getD i dN).op=17/\blk=i+5/\ks=[i+1,i+2,i+3,i+4,i+5]/\((l1.isSome=true/\z1=18)/\l2.isSome=true/\z2=18)/\b=l2.getD 0)/\R=(K++[⟨num,i,l1.getD 0,b⟩],if mH F p us 0=true then 0 else 1)/\
   F=H9 p ⟨num,i,l1.getD 0,b⟩ us wid upd (sp (l1.getD 0)) (ba (l1.getD 0)) (ln (l1.getD 0)):=by
  have hl2:0<=l2.getD 0:=hp2
  rcases hop with hop|hop
  ·rw[if_neg (by rw[hop];decide)] at e3 e4
   rw[if_neg (by rw[hop];decide)] at hR;by_cases h:l1.isSome=true/\z1=15
   ·rw[if_pos h] at hR
    exact .inr ⟨-1,_,.inl ⟨hop,e3,e4,h,rfl⟩,hR.symm,rfl⟩
   ·rw[if_neg h] at hR
    exact .inl ⟨.inl ⟨hop,e3,e4,h⟩,hR.symm⟩
  ·rw[if_pos hop] at e3 e4 hR
   rw[if_pos ac] at e3 e4;by_cases h:l1.isSome=true/\z1=18
   ·by_cases h2:l2.isSome=true/\z2=18
    ·rw[if_pos h,if_pos h2] at hR
     refine .inr ⟨l2.getD 0,_,.inr ⟨hop,e3,e4,⟨h,h2⟩,rfl⟩,hR.symm,?_⟩
     funext b l
     exact (if_pos hl2).symm
    ·rw[if_pos h,if_neg h2] at hR
     exact .inl ⟨.inr ⟨hop,e3,e4,λe=>h2 e.2⟩,hR.symm⟩
   ·rw[if_neg h] at hR
    exact .inl ⟨.inr ⟨hop,e3,e4,λe=>h e.1⟩,by rw[<-hR]⟩
 clear hR e3 e4;refine wW Tryz.func86 ?_
 rcases hcase with ⟨hc,rfl⟩|⟨b,F,hc,rfl,hF⟩
 ·rcases hc with ⟨hop,rfl,rfl,hc⟩|⟨hop,rfl,rfl,hc⟩
  all_goals
   cases hs1:l1.isSome<;>cases hs2:l2.isSome
  all_goals
   rw[hs1] at hlk hc
   try rw[hs2] at hc
   rw[hs2] at hlk2;simp only[true_and,false_and,Z0l,not_false_eq_true,and_true,and_false] at hc
   repeat'(first|exact y0|refine y1 ?_|refine y2 ?_ ?_|refine y4 λh=>?_|refine wX 105 (pu hk1 ?_)|refine wX 54 (pu hfm ?_)|refine wX 21 (cf [0,1,2,3,4,5,6] hlk ?_)|refine wX 17 (cf [0,1,2,3,4,5,6] hob ?_)|refine wX 21 (cf [0,1,2,3,4,5,6] hlk2 ?_)|refine wX 17 (cf [0,1,2,3,4,5,6] hob2 ?_)|refine y3 ?_|exact y5|fail)
   all_goals first
    |(simp only[Z04,Z0e,Z27,Z34];omega)
    |exact Fin.rl (.inl rfl) rfl rfl rfl rfl rfl rfl rfl
 have hxb:b= -1\/0<=b:=by
  rcases hc with hc|hc
  ·exact .inl hc.2.2.2.2
  ·exact .inr (by rw[hc.2.2.2.2];exact hp2)
 have hf1:FdR p ⟨num,i,l1.getD 0,b⟩ us wid upd:=hf0.of rfl (by
  simp only
  rcases hc with hc|hc
  ·rw[if_neg (by rw[hc.1];decide),hc.2.2.2.2]
  ·rw[if_pos hc.1,hc.2.2.2.2];exact⟨λ_=>by decide,λ_=>hp2⟩) hxb
 have hreg:b= -1->RegR O (t0::tt) (l1.getD 0) (sp (l1.getD 0)) (ba (l1.getD 0)) (ln (l1.getD 0))/\0<=ba (l1.getD 0)/\ba (l1.getD 0)<=9223372036854775808/\0<=ln (l1.getD 0)/\ln (l1.getD 0)<=1048576:=λh=>by
  have e15:z1=15:=by
   rcases hc with hc|hc
   ·exact hc.2.2.2.1.2
   ·have:=hc.2.2.2.2;omega
  obtain⟨y,hy⟩:=hoo o1 (by rw[<-hz1,e15];decide);rw[hy] at hz1;exact hrg1 y hy (by rw[<-e15,hz1];rfl)
 have hus:∀ j,j<us.length->(p.getD (us.getD j 0) dN).op=18->_:=λj hj ho=>Ep p hp O (t0::tt) (K.length+1) nx nh hO h0 hT ⟨num,i,l1.getD 0,b⟩ us wid upd (sp (l1.getD 0)) (ba (l1.getD 0)) (ln (l1.getD 0)) hf1 hreg hww (us.take j) (us.drop (j+1)) (us.getD j 0) (wR hj) (JN hnd hj) (JM hnd hj) (hln _ (oL hj) ho).1 (hln _ (oL hj) ho).2
 rw[<-hF] at hus;generalize l1.getD 0=a at*;clear hF hreg hrg1 hrg hf1 hxb;have hlK:=q8 K
 have hz3:(Tryz.prog.types[143]).size=4:=by kernel_rfl
 have hb3:(Tryz.prog.types[143]).bytes=32:=by kernel_rfl
 rcases hc with ⟨hop,rfl,rfl,⟨hc1,hc2⟩,hc3⟩|⟨hop,rfl,rfl,⟨⟨hc1,hc2⟩,hc4,hc5⟩,hc3⟩
 all_goals
  subst hc3;rw[hc1] at hlk
  try rw[hc4] at hlk2
  repeat'(first|exact y0|refine y1 ?_|refine y2 ?_ ?_|refine y4 λh=>?_|refine wX 105 (pu hk1 ?_)|refine wX 54 (pu hfm ?_)|refine wX 21 (cf [0,1,2,3,4,5,6] hlk ?_)|refine wX 17 (cf [0,1,2,3,4,5,6] hob ?_)|refine wX 21 (cf [0,1,2,3,4,5,6] hlk2 ?_)|refine wX 17 (cf [0,1,2,3,4,5,6] hob2 ?_)|refine wX 105 (pu hk2 ?_)|refine RegX.apr (w:=4) rfl rfl hlK rfl rfl rfl rfl rfl rfl rfl hz3 ac rfl ⟨Z02 _,rfl⟩ ac an rfl (by rw[hb3];omega) aa rfl ?_|refine y3 ?_|exact y5|fail)
  all_goals try (simp only[Z04,Z0e,Z27,Z34];omega)
  first
   |refine Ex.canon [0,1,2,3,4,5,6,8,11,12] 152 (rfX p us) (IN O t0 tt K ⟨num,i,a,_⟩ nx nh) rfl rfl ⟨VLe.refl _,VLe.refl _,VLe.refl _,VLe.refl _,VLe.refl _,trivial⟩ ⟨rfl,rfl,rfl,rfl,MemP.op ?_ trivial⟩ ?_ ?_
   |refine Ex.canon [0,1,2,3,4,5,6,8,12,13] 152 (rfX p us) (IN O t0 tt K ⟨num,i,a,_⟩ nx nh) rfl rfl ⟨VLe.refl _,VLe.refl _,VLe.refl _,VLe.refl _,VLe.refl _,trivial⟩ ⟨rfl,rfl,rfl,rfl,MemP.op ?_ trivial⟩ ?_ ?_
  ·rw[Z0r];rfl
  ·unfold IN tR kR
   generalize List.flatMap q9 _=c2
   cases c2<;>rfl
  generalize hV:mH F p us 0=Vb;refine Ex.inv (σ:=Nat) (λj=>[(24,nI j)]) (λ_=>IN O t0 tt K ⟨num,i,a,_⟩ nx nh) (λj=>j<=us.length/\mH F p (us.drop j) (jG p (us.take j))=Vb) (λj=>us.length-j) 0 rfl (λ_=>rfl) ⟨Z08 _,hV⟩ aV ⟨rfl,rfl,rfl,rfl,SubP.op rfl trivial⟩ ?_;rintro j ⟨j1,j2⟩;by_cases hj:j<us.length
  ·have hd:us.drop j=us.getD j 0::us.drop (j+1):=by rw[Z0k hj,Z00,Z01 hj];rfl
   have hcl:=(huk (us.getD j 0) (oL hj)).1
   have htk:jG p (us.take (j+1))=jG p (us.take j)+fS p (us.getD j 0):=by
    rw[<-List.take_append_getElem hj,yF,Z00,Z01 hj];exact congrArg _ (Int.add_zero _)
   rw[hd,mH] at j2;by_cases ho:(p.getD (us.getD j 0) dN).op=18
   ·obtain⟨a1,a2,a3,a4,a5,a6,a7,a8,a9,g1,g2,g3,g4,g5⟩:=hus j hj ho
    cases hv:F (jG p (us.take j)) (fS p (us.getD j 0))
    ·rw[hv] at g5 j2
     rw[if_pos ⟨ho,rfl⟩] at j2;subst j2
     repeat'(first|exact y0|refine y1 ?_|refine y2 ?_ ?_|refine y4 λh=>?_|refine wX 134 (cf [0,1,2,3,4,8,9] g4 ?_)|refine wX 147 (bo g5 ?_)|refine y3 ?_|exact y5|fail)
     all_goals try (show us.getD j 0<p.length;omega)
     all_goals exact Fin.ra 8 (.inl rfl) (by rw[Z03];rfl) rfl rfl rfl rfl rfl rfl rfl
    ·rw[hv] at g5 j2
     rw[if_neg an,<-htk] at j2
     repeat'(first|exact y0|refine y1 ?_|refine y2 ?_ ?_|refine y4 λh=>?_|refine wX 134 (cf [0,1,2,3,4,8,9] g4 ?_)|refine wX 147 (bo g5 ?_)|refine y3 ?_|exact y5|fail)
     all_goals try (show us.getD j 0<p.length;omega)
     refine LoopR.same (j+1) ⟨hj,j2⟩ aa rfl ⟨VLe.of_eq (congrArg nI (by push_cast;rfl)),trivial⟩ ⟨rfl,rfl,rfl,rfl,SubP.op rfl trivial⟩ rfl ?_ ac;unfold IN tR kR;generalize List.flatMap q9 _=c2
     cases c2<;>rfl
   ·rw[if_neg (λe=>ho e.1),<-htk] at j2
    repeat'(first|exact y0|refine y1 ?_|refine y2 ?_ ?_|refine y4 λh=>?_|refine y3 ?_|exact y5|fail)
    all_goals try (show us.getD j 0<p.length;omega)
    refine LoopR.same (j+1) ⟨hj,j2⟩ aa rfl ⟨VLe.of_eq (congrArg nI (by push_cast;rfl)),trivial⟩ ⟨rfl,rfl,rfl,rfl,SubP.op rfl trivial⟩ rfl ?_ ac;unfold IN tR kR;generalize List.flatMap q9 _=c2
    cases c2<;>rfl
  ·rw[Z10 aa,mH] at j2
   subst j2
   repeat'(first|exact y0|refine y1 ?_|refine y2 ?_ ?_|refine y4 λh=>?_|refine y3 ?_|exact y5|fail)
   all_goals exact Fin.ra 8 (.inl rfl) (by rw[Z03];rfl) rfl rfl rfl rfl rfl rfl rfl
end
end Go.Proofs.YtegjgpldfgjoiaaGreatDoor
