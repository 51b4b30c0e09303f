import Derived.Test.YtegjgpldfgjoiaaGreatDoorCnJ41
import Derived.Test.YtegjgpldfgjoiaaGreatDoorCnJ40
set_option linter.all false
set_option maxHeartbeats 40000000
set_option maxRecDepth 100000
namespace Go.Proofs.YtegjgpldfgjoiaaGreatDoor
open Go Ab
section
variable {us:List Nat} {j:Nat}
def qg (O:List Ro) (s nm:By) (bf:Int):Option Int:=match dG O s nm with
 |some a=>if ((fu a O).getD eZ).op=bf then some a else none
 |none=>none
def ol (F:Int->Int->Bool) (p:List Nd):List Nat->Int->Bool
 |[],_=>true
 |c::cs,b=>if (p.getD c dN).op=18/\F b (g_ p c)=false then false else ol F p cs (b+g_ p c)
def jh (p:List Nd):List Nat->Int
 |[]=>0
 |c::cs=>g_ p c+jh p cs
theorem C9 (p:List Nd) (u:Int):∀ (cs:List Nat) (s:Sp),(dP p u cs s).b=s.b+jh p cs
 |[],s=>(Int.add_zero _).symm
 |c::cs,s=>by
  rw[dP,C9 p u cs,jh]
  grind
theorem xP (p:List Nd) (u:Nat):∀ (cs:List Nat) (s:Sp),u∉cs->(dP p u cs s).bit=s.bit/\(dP p u cs s).len=s.len/\(dP p u cs s).f=s.f
 |[],s,_=>⟨rfl,rfl,rfl⟩
 |c::cs,s,h=>by
  rw[dP,if_neg (λe=>h ae)]
  exact xP p u cs _ λe=>h (.tail _ e)
theorem xQ (p:List Nd):∀ (l:List Nat) (u:Nat) (r:List Nat) (s:Sp),u∉l->u∉r->(dP p u (l++u::r) s).bit=s.b+jh p l/\(dP p u (l++u::r) s).len=g_ p u/\(dP p u (l++u::r) s).f=true
 |[],u,r,s,_,h=>by
  grind [dP,jh,xP]
 |c::l,u,r,s,h1,h2=>by
  rw[Z25,dP,if_neg (λe=>h1 ae)];obtain⟨g1,g2,g3⟩:=xQ p l u r {s with b:=s.b+g_ p c} (λe=>h1 (.tail _ e)) h2
  grind [jh]
abbrev G_ (O:List Ro) (T:List Rt) (K:List Rk) (nx nh:Int):Hp:=[(0,some (pC 1 3 7 O.length T.length K.length nx nh)),(1,some (oR O)),(3,tR 3 T),(5,none),(7,kR 7 K)]
theorem DM {O:List Ro} {T:List Rt} {K:List Rk} {nx nh:Int}:fg 9 (G_ O T K nx nh)=true:=by
 unfold G_ tR kR;generalize T.flatMap rG=c1;generalize K.flatMap kH=c2
 cases c1<;>cases c2<;>rfl
section
variable {P:Program} {fn:Func} {env:List V} {O:List Ro} {T:List Rt} {K K':List Rk} {nx nh z z':Int} {e:Exit} {M:Hp} {m:Nat}
theorem Fin.ra (c:Nat) (hx:e=.ret\/e=.normal) (h0:lk M 0=some (pC 1 3 c O.length T.length K.length nx nh)) (h1:lk M 1=some (oR O)) (h3:lk M 3=tR 3 T) (h5:lk M c=kR c K) (hr:gC P fn env M=some (.s (.int .i64 z'))) (hn:co (List.range 7++[c,c+1])=true) (hz:z'=z) (hk:K=K'):Fin P fn 7 (nI z) 9 (G_ O T K' nx nh) e env m M:=by
 subst hz;subst hk;exact⟨hx,_,[c,c+1],ah _,fY hr ⟨h0,h1,bh h3 (bh h5 trivial)⟩ rfl DM rfl hn⟩
theorem Fin.rl (hx:e=.ret\/e=.normal) (h0:lk M 0=some (Dh O.length T.length K.length nx nh)) (h1:lk M 1=some (oR O)) (h3:lk M 3=tR 3 T) (h5:lk M 5=kR 5 K) (hr:gC P fn env M=some (.s (.int .i64 z'))) (hz:z'=z) (hk:K=K'):Fin P fn 7 (nI z) 9 (G_ O T K' nx nh) e env m M:=by
 subst hz;subst hk;refine⟨hx,_,[5,6],ah _,uI hr ⟨h0,h1,bh h3 (bh h5 trivial)⟩ rfl DM rfl ?_ ?_⟩
 all_goals
  unfold G_ tR kR;generalize T.flatMap rG=c1;generalize K.flatMap kH=c2
  cases c1<;>cases c2<;>rfl
end
theorem uo (p:List Nd):∀ a b:List Nat,jh p (a++b)=jh p a+jh p b
 |[],b=>(Z5n _).symm
 |c::a,b=>by rw[Z25,jh,jh,uo p a b];omega
theorem zf {p:List Nd}:∀ {l:List Nat},(∀ c∈l,0<=g_ p c/\g_ p c<=8388608)->0<=jh p l/\jh p l<=8388608*l.length
 |[],_=>⟨Z2l _,Z2l _⟩
 |c::l,h=>by
  have h1:=h c (.head _)
  have h2:=zf λc hc=>h c (.tail _ hc)
  grind [jh]
theorem FdR.of {p:List Nd} {x x':Rk} {wid upd:Int} (h:FdR p x us wid upd) (h1:x'.nd=x.nd) (h2:0<=x'.b↔0<=x.b) (h3:x'.b= -1\/0<=x'.b):FdR p x' us wid upd:=by
 obtain⟨q,a1,a2,a3,a4,a5,a6,_⟩:=h;obtain⟨i,blk,ks,q1,q2,q3,q4,q5,q6,q7⟩:=q
 have e:∀ (α:Type) (a b:α),(if 0<=x'.b then a else b)=if 0<=x.b then a else b:=λα a b=>by grind
 exact⟨⟨i,blk,ks,h1.trans q1,q2,q3,q4,ae,ae,q7⟩,a1,a2,a3,a4,a5,a6,h3⟩
def BH (p:List Nd) (num:Int) (O:List Ro) (K:List Rk) (i:Nat) (sc:Pth) (us:List Nat) (F16:Int->Int->Int->Bool) (F17:Int->Int->Bool):List Rk×Int:=
 if (p.getD i dN).op=17 then
  match qg O (aM sc) (p.getD (i+1) dN).str 18,qg O (aM sc) (p.getD (i+2) dN).str 18 with
  |some a,some b=>(K++[⟨num,i,a,b⟩],if ol F17 p us 0=true then 0 else 1)
  |_,_=>(K,6)
 else match qg O (aM sc) (p.getD (i+1) dN).str 15 with
  |some a=>(K++[⟨num,i,a,-1⟩],if ol (F16 a) p us 0=true then 0 else 1)
  |none=>(K,6)
theorem yU (h:j<us.length):us=us.take j++us.getD j 0::us.drop (j+1):=by
 have e:us.getD j 0=us[j]:=ae;rw[e,<-Z0k h,Z2m]
theorem qd (h:j<us.length):us.getD j 0∈us:=ae
theorem Ms (hn:us.Nodup) (h:j<us.length):us.getD j 0∉us.take j:=λe=>by
 grind [yU]
theorem Mr (hn:us.Nodup) (h:j<us.length):us.getD j 0∉us.drop (j+1):=λe=>by
 have:=hn;rw[yU h] at this
 grind
abbrev rfX (p:List Nd) (us:List Nat):List (Nat×V):=[(0,.s (.ptr (some (0,0)))),(1,al p),(13,.s (.ptr (some (7,0)))),(23,.s (eQ us)),(24,nI 0)]
abbrev Le (O:List Ro) (t0:Rt) (tt:List Rt) (K:List Rk) (x:Rk) (nx nh:Int):Hp:=[(0,some (pC 1 3 8 O.length (tt.length+1) (K.length+1) nx nh)),(1,some (oR O)),(3,tR 3 (t0::tt)),(7,some {cells:=[.int .i64 x.t,.int .i64 x.nd,.int .i64 x.a,.int .i64 x.b],ty:=143}),(8,kR 8 (K++[x]))]
def Ky (p:List Nd) (x:Rk) (us:List Nat) (wid upd sp ba ln b l:Int):Bool:=if 0<=x.b then fM 0 0 (uX (jh p us) wid) b l wid upd else fM sp ba ln b l wid upd
theorem GH (p:List Nd) (hp:p.length<=2048) (O:List Ro) (T:List Rt) (nl:Nat) (nx nh:Int) (hO:O.length<=100000) (h0:0<O.length) (hT:T.length<=100000) (x:Rk) (us:List Nat) (wid upd sp ba ln:Int) (hf:FdR p x us wid upd)
 (hr:x.b= -1->RegR O T x.a sp ba ln/\0<=ba/\ba<=9223372036854775808/\0<=ln/\ln<=1048576) (hww:wid=1\/wid=2\/wid=4\/wid=8) (l r:List Nat) (c:Nat) (hus:us=l++c::r) (h1:c∉l) (h2:c∉r) (h3:1<=g_ p c) (h4:g_ p c<=256):
 ∃ a1 a2 a3 a4 a5 a6 a7 a8 a9:Int,Gq p x us wid upd sp ba ln c=HU a1 a2 a3 a4 a5 a6 a7 a8 a9/\a4=jh p l/\a5=g_ p c/\FQ 134 [.s (.ptr (some (0,0))),al p,.agg (kH x),nI c] 7 (rsX O T nl nx nh) (.tup [.agg (HU a1 a2 a3 a4 a5 a6 a7 a8 a9),.s (.bool true)]) 7 (rsX O T nl nx nh)/\FQ 147 [.agg (HU a1 a2 a3 a4 a5 a6 a7 a8 a9)] 0 [] (bV (Ky p x us wid upd sp ba ln (jh p l) (g_ p c))) 0 []:=by
 have hs:=C8 p hp O T nl nx nh hO h0 hT x us wid upd sp ba ln c hf λh=>(hr h).1
 have hb:=C9 p c us ⟨0,0,0,false⟩;have ha:=xQ p l c r ⟨0,0,0,false⟩ h1 h2;rw[<-hus] at ha;obtain⟨g1,g2,g3⟩:=ha
 have hl:l.length<=2048:=by grind [hf.un]
 have hbl:=zf (p:=p) (l:=l) λc hc=>((hf.uk c ae).2.2.1)
 have hbu:=zf (p:=p) (l:=us) λc hc=>(hf.uk c hc).2.2.1
 have hul:=hf.un;rw[g3] at hs;unfold Gq at hs |-;unfold Ky;simp only[Z5n] at hb g1;rw[g1,g2,hb] at hs |-;have w0:=hf.w0;have w1:=hf.w1;have u0:=hf.u0;have u1:=hf.u1;by_cases hx:0<=x.b
 ·rw[if_pos hx] at hs |-
  rw[if_pos hx];refine⟨_,_,_,_,_,_,_,_,_,rfl,rfl,rfl,hs,?_⟩;have q1:0<=(jh p us+8*wid-1).tdiv (8*wid):=Z5r aa aa;have q2:(jh p us+8*wid-1).tdiv (8*wid)<=jh p us+8*wid-1:=Z5l _ aa;have q4:(jh p us+8*wid-1).tdiv (8*wid)<=68719476736:=aa
  have q3:0<=uX (jh p us) wid/\uX (jh p us) wid<=1099511627776:=⟨Z5y q1 aa,Int.le_trans (Int.mul_le_mul q4 w1 aa ac) ac⟩
  grind [rB]
 ·rw[if_neg hx] at hs |-
  rw[if_neg hx];obtain⟨_,r1,r2,r3,r4⟩:=hr (by have:=hf.b0;omega);exact⟨_,_,_,_,_,_,_,_,_,rfl,rfl,rfl,hs,rB sp ba ln _ _ wid upd (-1) (-1) r1 r2 r3 aa hbl.1 aa h3 h4 u0 u1 hww⟩
theorem He (p:List Nd) (hp:p.length<=2048) (hw:kO p) (num:Int) (O:List Ro) (t0:Rt) (tt:List Rt) (K:List Rk) (nx nh:Int) (hO:O.length<=100000) (h0:0<O.length) (hT:(t0::tt).length<=100000) (hK:K.length<=100000) (i:Nat) (sc:Pth) (hsc:de sc.segs) (hsl:(aM sc).length<=4398046511104)
 (hop:(p.getD i dN).op=16\/(p.getD i dN).op=17) (us:List Nat) (wid upd:Int) (hf:FdR p ⟨num,i,0,if (p.getD i dN).op=17 then 0 else-1⟩ us wid upd) (hi:i+5<p.length\/(p.getD i dN).op=16)
 (hww:wid=1\/wid=2\/wid=4\/wid=8) (hnd:us.Nodup) (hln:∀ c∈us,(p.getD c dN).op=18->1<=g_ p c/\g_ p c<=256)
 (sp ba ln:Int->Int) (hrg:∀ a y,fu a O=some y->y.op=15->RegR O (t0::tt) a (sp a) (ba a) (ln a)/\0<=ba a/\ba a<=9223372036854775808/\0<=ln a/\ln a<=1048576)
 (hp2:∀ nm,0<=(dG O (aM sc) nm).getD 0) (R:List Rk×Int) (hR:BH p num O K i sc us (λa b l=>fM (sp a) (ba a) (ln a) b l wid upd) (λb l=>fM 0 0 (uX (jh p us) wid) b l wid upd)=R):
 FQ 86 [.s (.ptr (some (0,0))),al p,nI i,hY sc,nI num] 7 (Di O (t0::tt) K nx nh) (nI R.2) 9 (G_ O (t0::tt) R.1 nx nh):=by
 have hfm:=kZ sc hsc;have hf0:=hf;obtain⟨⟨i',blk,ks,e1,hk1,hk2,e2,e3,e4,e5,e6⟩,hun,huk,w0,w1,u0,u1,hb0⟩:=hf;simp only at e1 e3 e4;have e1:i=i':=aa;subst e1;obtain⟨sr,su,ss⟩:=sc;unfold BH at hR;generalize aM ⟨sr,su,ss⟩=from_ at*;have hlk:=Ei O (t0::tt).length K.length nx nh from_ (p.getD (i+1) dN).str hsl (fb hw (i+1)) hO h0;have hlk2:=Ei O (t0::tt).length K.length nx nh from_ (p.getD (i+2) dN).str hsl (fb hw (i+2)) hO h0;have hob:=lK O (t0::tt).length K.length nx nh ((dG O from_ (p.getD (i+1) dN).str).getD 0) _ rfl hO h0;have hob2:=lK O (t0::tt).length K.length nx nh ((dG O from_ (p.getD (i+2) dN).str).getD 0) _ rfl hO h0
 have hf1:∀ nm bf,qg O from_ nm bf=if (dG O from_ nm).isSome=true/\((fu ((dG O from_ nm).getD 0) O).getD eZ).op=bf then some ((dG O from_ nm).getD 0) else none:=λnm bf=>by
  unfold qg
  cases dG O from_ nm<;>simp
 rw[hf1,hf1,hf1] at hR;have hp2:=hp2 (p.getD (i+2) dN).str;generalize dG O from_ (p.getD (i+1) dN).str=l1 at*;generalize dG O from_ (p.getD (i+2) dN).str=l2 at*;have hrg1:=hrg (l1.getD 0);generalize fu (l1.getD 0) O=o1 at*;generalize fu (l2.getD 0) O=o2 at*
 have hoo:∀ o:Option Ent,((o.getD eZ).op≠0->∃ y,o=some y):=λo h=>by
  cases o with
  |none=>exact absurd rfl h
  |some y=>grind
 have hE:∀ o:Option Ent,∃ a1 a2 a3 a4 a5,Lh (o.getD eZ)=[.str a1,.int .i64 a2,.int .i64 a3,.int .i64 a4,.int .i64 a5]/\a2=(o.getD eZ).op:=λo=>⟨_,_,_,_,_,rfl,rfl⟩
 obtain⟨x1,z1,x3,x4,x5,hx1,hz1⟩:=hE o1;obtain⟨v1,z2,v3,v4,v5,hx2,hz2⟩:=hE o2;rw[hx1] at hob;rw[hx2] at hob2;rw[<-hz1,<-hz2] at hR
 have hcase:(((p.getD i dN).op=16/\blk=i+4/\ks=[i+1,i+2,i+3,i+4]/\ ¬(l1.isSome=true/\z1=15)\/(p.getD i dN).op=17/\blk=i+5/\ks=[i+1,i+2,i+3,i+4,i+5]/\ ¬((l1.isSome=true/\z1=18)/\l2.isSome=true/\z2=18))/\R=(K,6))
  \/∃ (b:Int) (F:Int->Int->Bool),((p.getD i dN).op=16/\blk=i+4/\ks=[i+1,i+2,i+3,i+4]/\(l1.isSome=true/\z1=15)/\b= -1\/(p.getD i dN).op=17/\blk=i+5/\ks=[i+1,i+2,i+3,i+4,i+5]/\((l1.isSome=true/\z1=18)/\l2.isSome=true/\z2=18)/\b=l2.getD 0)/\R=(K++[⟨num,i,l1.getD 0,b⟩],if ol F p us 0=true then 0 else 1)/\
   F=Ky p ⟨num,i,l1.getD 0,b⟩ us wid upd (sp (l1.getD 0)) (ba (l1.getD 0)) (ln (l1.getD 0)):=by
  have hl2:0<=l2.getD 0:=hp2
  rcases hop with hop|hop
  ·rw[if_neg ae] at e3 e4
   rw[if_neg ae] at hR;by_cases h:l1.isSome=true/\z1=15
   ·rw[if_pos h] at hR
    exact .inr ⟨-1,_,.inl ⟨hop,e3,e4,h,rfl⟩,hR.symm,rfl⟩
   all_goals grind
  ·rw[if_pos hop] at e3 e4 hR
   rw[if_pos ac] at e3 e4;by_cases h:l1.isSome=true/\z1=18
   ·by_cases h2:l2.isSome=true/\z2=18
    ·rw[if_pos h,if_pos h2] at hR
     refine .inr ⟨l2.getD 0,_,.inr ⟨hop,e3,e4,⟨h,h2⟩,rfl⟩,hR.symm,?_⟩
     funext b l
     exact (if_pos hl2).symm
    all_goals grind
   all_goals grind
 clear hR e3 e4;refine wW Tryz.func86 ?_
 rcases hcase with ⟨hc,rfl⟩|⟨b,F,hc,rfl,hF⟩
 ·rcases hc with ⟨hop,rfl,rfl,hc⟩|⟨hop,rfl,rfl,hc⟩
  all_goals
   cases hs1:l1.isSome<;>cases hs2:l2.isSome
  all_goals
   rw[hs1] at hlk hc
   try rw[hs2] at hc
   rw[hs2] at hlk2;simp only[true_and,false_and,Z0l,not_false_eq_true,and_true,and_false] at hc
   repeat'(first|refine yA ?_|refine y2 ?_ ?_|refine y4 λh=>?_|refine an hk1 ?_|refine an hfm ?_|refine wX (bD [0,1,2,3,4,5,6] hlk ?_)|refine wX (bD [0,1,2,3,4,5,6] hob ?_)|refine wX (bD [0,1,2,3,4,5,6] hlk2 ?_)|refine wX (bD [0,1,2,3,4,5,6] hob2 ?_)|exact y5|fail)
   all_goals first
    |(simp only[Z04,Z0e,Z27,Z34];omega)
    |exact Fin.rl (.inl rfl) rfl rfl rfl rfl rfl rfl rfl
 have hxb:b= -1\/0<=b:=by
  grind
 have hf1:FdR p ⟨num,i,l1.getD 0,b⟩ us wid upd:=hf0.of rfl (by
  simp only
  rcases hc with hc|hc
  ·rw[if_neg (by rw[hc.1];decide),hc.2.2.2.2]
  ·rw[if_pos hc.1,hc.2.2.2.2];exact⟨λ_=>by decide,λ_=>hp2⟩) hxb
 have hreg:b= -1->RegR O (t0::tt) (l1.getD 0) (sp (l1.getD 0)) (ba (l1.getD 0)) (ln (l1.getD 0))/\0<=ba (l1.getD 0)/\ba (l1.getD 0)<=9223372036854775808/\0<=ln (l1.getD 0)/\ln (l1.getD 0)<=1048576:=λh=>by
  grind
 have hus:∀ j,j<us.length->(p.getD (us.getD j 0) dN).op=18->_:=λj hj ho=>GH p hp O (t0::tt) (K.length+1) nx nh hO h0 hT ⟨num,i,l1.getD 0,b⟩ us wid upd (sp (l1.getD 0)) (ba (l1.getD 0)) (ln (l1.getD 0)) hf1 hreg hww (us.take j) (us.drop (j+1)) (us.getD j 0) (yU hj) (Ms hnd hj) (Mr hnd hj) (hln _ (qd hj) ho).1 (hln _ (qd hj) ho).2
 rw[<-hF] at hus;generalize l1.getD 0=a at*;clear hF hreg hrg1 hrg hf1 hxb;have hlK:=ta K;have hz3:(Tryz.prog.types[143]).size=4:=aK;have hb3:(Tryz.prog.types[143]).bytes=32:=aK
 rcases hc with ⟨hop,rfl,rfl,⟨hc1,hc2⟩,hc3⟩|⟨hop,rfl,rfl,⟨⟨hc1,hc2⟩,hc4,hc5⟩,hc3⟩
 all_goals
  subst hc3;rw[hc1] at hlk
  try rw[hc4] at hlk2
  repeat'(first|refine y1 ?_|refine y2 ?_ ?_|refine y4 λh=>?_|refine an hk1 ?_|refine an hfm ?_|refine wX (bD [0,1,2,3,4,5,6] hlk ?_)|refine wX (bD [0,1,2,3,4,5,6] hob ?_)|refine wX (bD [0,1,2,3,4,5,6] hlk2 ?_)|refine wX (bD [0,1,2,3,4,5,6] hob2 ?_)|refine an hk2 ?_|refine gZ (w:=4) rfl rfl hlK rfl rfl rfl rfl rfl rfl rfl hz3 ac rfl ⟨Z02 _,rfl⟩ ac aq rfl (by rw[hb3];omega) aa rfl ?_|refine y3 ?_|exact y5|fail)
  all_goals try (simp only[Z04,Z0e,Z27,Z34];omega)
  first
   |refine my [0,1,2,3,4,5,6,8,11,12] 152 (rfX p us) (Le O t0 tt K ⟨num,i,a,_⟩ nx nh) rfl rfl ⟨ah _,ah _,ah _,ah _,ah _,trivial⟩ ⟨rfl,rfl,rfl,rfl,bh ?_ trivial⟩ ?_ ?_
   |refine my [0,1,2,3,4,5,6,8,12,13] 152 (rfX p us) (Le O t0 tt K ⟨num,i,a,_⟩ nx nh) rfl rfl ⟨ah _,ah _,ah _,ah _,ah _,trivial⟩ ⟨rfl,rfl,rfl,rfl,bh ?_ trivial⟩ ?_ ?_
  ·rw[Z0r];rfl
  ·unfold Le tR kR
   generalize List.flatMap kH _=c2
   cases c2<;>rfl
  generalize hV:ol F p us 0=Vb;refine cy (σ:=Nat) (λj=>[(24,nI j)]) (λ_=>Le O t0 tt K ⟨num,i,a,_⟩ nx nh) (λj=>j<=us.length/\ol F p (us.drop j) (jh p (us.take j))=Vb) (λj=>us.length-j) 0 rfl (λ_=>rfl) ⟨Z08 _,hV⟩ aP ⟨rfl,rfl,rfl,rfl,fF rfl trivial⟩ ?_;rintro j ⟨j1,j2⟩;by_cases hj:j<us.length
  ·have hd:us.drop j=us.getD j 0::us.drop (j+1):=by rw[Z0k hj,Z00,Z01 hj];rfl
   have hcl:=(huk (us.getD j 0) (qd hj)).1
   have htk:jh p (us.take (j+1))=jh p (us.take j)+g_ p (us.getD j 0):=by
    rw[<-List.take_append_getElem hj,uo,Z00,Z01 hj];exact congrArg _ (Int.add_zero _)
   rw[hd,ol] at j2;by_cases ho:(p.getD (us.getD j 0) dN).op=18
   ·obtain⟨a1,a2,a3,a4,a5,a6,a7,a8,a9,g1,g2,g3,g4,g5⟩:=hus j hj ho
    cases hv:F (jh p (us.take j)) (g_ p (us.getD j 0))
    ·rw[hv] at g5 j2
     rw[if_pos ⟨ho,rfl⟩] at j2;subst j2
     repeat'(first|refine yA ?_|refine y2 ?_ ?_|refine y4 λh=>?_|refine wX (bD [0,1,2,3,4,8,9] g4 ?_)|refine bG g5 ?_|exact y5|fail)
     all_goals exact Fin.ra 8 (.inl rfl) (by rw[Z03];rfl) rfl rfl rfl rfl rfl rfl rfl
    ·rw[hv] at g5 j2
     rw[if_neg aq,<-htk] at j2
     repeat'(first|refine yA ?_|refine y2 ?_ ?_|refine y4 λh=>?_|refine wX (bD [0,1,2,3,4,8,9] g4 ?_)|refine bG g5 ?_|exact y5|fail)
     refine dz (j+1) ⟨hj,j2⟩ aa rfl ⟨bB (congrArg nI ae),trivial⟩ ⟨rfl,rfl,rfl,rfl,fF rfl trivial⟩ rfl ?_ ac;unfold Le tR kR;generalize List.flatMap kH _=c2
     cases c2<;>rfl
   ·rw[if_neg (λe=>ho e.1),<-htk] at j2
    repeat'(first|refine yA ?_|refine y2 ?_ ?_|refine y4 λh=>?_|exact y5|fail)
    refine dz (j+1) ⟨hj,j2⟩ aa rfl ⟨bB (congrArg nI ae),trivial⟩ ⟨rfl,rfl,rfl,rfl,fF rfl trivial⟩ rfl ?_ ac;unfold Le tR kR;generalize List.flatMap kH _=c2
    cases c2<;>rfl
  ·rw[Z10 aa,ol] at j2
   subst j2
   repeat'(first|refine yA ?_|refine y2 ?_ ?_|refine y4 λh=>?_|exact y5|fail)
   all_goals exact Fin.ra 8 (.inl rfl) (by rw[Z03];rfl) rfl rfl rfl rfl rfl rfl rfl
end
