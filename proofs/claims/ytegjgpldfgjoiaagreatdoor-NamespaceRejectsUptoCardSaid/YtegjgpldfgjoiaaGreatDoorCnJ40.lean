import Derived.Test.YtegjgpldfgjoiaaGreatDoorCnJ38
import Derived.Test.YtegjgpldfgjoiaaGreatDoorCnJ33
import Derived.Test.YtegjgpldfgjoiaaGreatDoorCnJ21
import Derived.Test.YtegjgpldfgjoiaaGreatDoorCnJ39
set_option linter.all false
set_option maxHeartbeats 40000000
set_option maxRecDepth 100000
namespace Go.Proofs.YtegjgpldfgjoiaaGreatDoor
open Go Ab
section
variable {E E':List Ent} {i:Nat} {sc q:Pth} {fs:List Fd}
structure PrO (p:List Nd):Prop where
 hp:p.length<=2048
 hw:oh p
 hI:li p
 hO:∀ j,j<p.length->aN p j=false
 hN:∀ j,j<p.length->kN p j
structure FdOK (p:List Nd) (m N:Nat) (d:Fd):Prop where
 node:∃ i:Nat,d.node=i/\i+3<p.length/\((p.getD i dN).op≠16->1<=aj p (i+3)/\aj p (i+3)<=8)
 scope:d.scope.length<9223372036854775807
 units:∀ u∈d.units,(m:Int)<=u/\u<N
 len:d.units.length<=2048
 b0:0<=d.bits
 b1:d.bits<=20000000000
theorem FdOK.mono {p:List Nd} {m N N':Nat} {d:Fd} (h:FdOK p m N d) (hN:N<=N'):FdOK p m N' d:=
 ⟨h.node,h.scope,λu hu=>by have:=h.units u hu;omega,h.len,h.b0,h.b1⟩
def BitO (E:List Ent):Prop:=∀ k,(E.getD k eZ).bit<=1099511627776
theorem BitO.push {y:Ent} (h:BitO E) (hy:y.bit<=1099511627776):BitO (E++[y]):=by
 intro k
 rcases Z3g k E.length with e|e|e
 ·rw[Z00,Z0x e,<-Z00];exact h k
 ·grind
 ·rw[Z00,Z0b ae]
  exact (ac:(0:Int)<=1099511627776)
theorem BitO.set {y:Ent} (h:BitO E) (hy:y.bit<=1099511627776) (j:Nat):BitO (E.set j y):=by
 intro k;rw[Z00,Z1i];split
 ·split
  ·exact hy
  ·exact (ac:(0:Int)<=1099511627776)
 ·rw[<-Z00];exact h k
theorem mZ (q:Pth):(aM q).length<=500:=by
 unfold aM;split
 ·rename_i h
  obtain⟨h1,h2,h3,_,h5,_⟩:=aR h
  grind [oN]
 ·simp
theorem EN (q:Pth):(aM q).length<9223372036854775807:=by have:=mZ q;omega
section
variable {p:List Nd} {num:Int} {m:Nat}
theorem AddOK.gro (hi:i+1<p.length) (h:AddOK p num E i sc E' q):Gro p num m E E':=.add hi h (.refl _)
theorem AddOK.bit (hE:BitO E) (h:AddOK p num E i sc E' q):BitO E':=by
 obtain⟨ab,c,_,_,rfl⟩:=h.up;exact hE.push (ac:(0:Int)<=1099511627776)
def ElG (p:List Nd) (num:Int) (m:Nat) (E:List Ent) (us:List Int) (bits:Int) (s:Nat) (R:List Ent×List Int×Int×Int):Prop:=
 Gro p num m E R.1/\BitO R.1/\(∀ u∈R.2.1,(m:Int)<=u/\u<R.1.length)/\R.2.1.length<=us.length+s/\0<=R.2.2.1/\R.2.2.1<=bits+8388608*s
theorem uc (H:PrO p) (sc:Pth) (wid upd:Int):∀ (kf:Fo) (c:Nat) (E:List Ent) (us:List Int) (bits:Int),kf.At p c->kf.V (List.replicate kf.cnt (false,70))->m<=E.length->BitO E->0<=bits->bits+8388608*kf.size<=20000000000->(∀ u∈us,(m:Int)<=u/\u<E.length)->
 ElG p num m E us bits kf.size (dI p num sc wid upd kf c E us bits)
 | .nil,c,E,us,bits,_,_,hm,hb,h0,h1,hu=>by
   unfold dI;exact⟨.refl _,hb,hu,Z1o _ _,h0,ae⟩
 | .cons x k n,c,E,us,bits,ha,hv,hm,hb,h0,h1,hu=>by
   have hcl:=At.lt ha;have hx:=At.get ha;have hac:=hv.1.1;simp only[Fo.size] at h1
   have hbd:∀ j,0<=aj p j:=λj=>ce H.hI j
   rw[dI];by_cases h19:x.op=19
   ·rw[if_pos h19]
    have hop:(p.getD c dN).op=19:=ae;have hb1:=yf (H.hO c hcl) hop;have hb0:=hbd (c+1);obtain⟨g1,g2,g3,g4,g5,g6⟩:=uc H sc wid upd n (c+1+k.size) E us (bits+aj p (c+1)) ha.2.2.2 hv.2.2 hm hb aa aa hu;exact⟨g1,g2,g3,by simp only[Fo.size];omega,g5,by simp only[Fo.size];omega⟩
   ·rw[if_neg h19]
    have h18:x.op=18:=by rcases Jb hac with h|h;exact h;exact absurd h h19
    have hop:(p.getD c dN).op=18:=ae;have hb1:=yg (H.hO c hcl) hop;have hb0:=hbd (c+2);have hn:=(H.hN c hcl).2.2.2.1 (.inr (.inl hop));have hao:=pb 0 [] num p H.hp H.hw E c aa sc;generalize bt p num E c sc=A at hao |-;obtain⟨E2,id,q,e⟩:=A;simp only at hao |-
    rcases hao with ⟨rfl,he⟩|⟨rfl,rfl,hA⟩
    ·rw[if_pos he]
     exact⟨.refl _,hb,hu,Z1o _ _,h0,ae⟩
    ·rw[if_neg aq]
     have hlA:=hA.len;have hls:= @Z18 _ E2 E.length (CE (E2.getD E.length eZ) bits (aj p (c+2)) wid upd)
     obtain⟨g1,g2,g3,g4,g5,g6⟩:=uc H sc wid upd n (c+1+k.size) (E2.set E.length (CE (E2.getD E.length eZ) bits (aj p (c+2)) wid upd)) (us++[(E.length:Int)]) (bits+aj p (c+2)) ha.2.2.2 hv.2.2 aa
      ((hA.bit hb).set (by show bits<=_;omega) _) aa aa (λu hu'=>by
        rcases Z0w.1 hu' with h|h
        ·have:=hu u h;omega
        ·have:=Z0m.1 h;omega)
     refine⟨.add aa hA (.spec (y:=CE (E2.getD E.length eZ) bits (aj p (c+2)) wid upd) hm aa ⟨rfl,rfl,rfl,rfl,rfl⟩ g1),g2,g3,?_,g5,by simp only[Fo.size];omega⟩
     grind [Fo.size]
def PG (p:List Nd) (m:Nat) (E:List Ent) (fs:List Fd):Prop:=m<=E.length/\BitO E/\∀ d∈fs,FdOK p m E.length d
def DG (p:List Nd) (num:Int) (m:Nat) (E:List Ent) (R:DR):Prop:=Gro p num m E R.1/\BitO R.1/\∀ d∈R.2.1,FdOK p m R.1.length d
theorem DG.refl {e:Int} (h:PG p m E fs):DG p num m E (E,fs,e):=⟨.refl _,h.2.1,h.2.2⟩
theorem DG.pg {R:DR} (hm:m<=E.length) (h:DG p num m E R):PG p m R.1 R.2.1:=⟨Z1z hm h.1.len,h.2.1,h.2.2⟩
theorem DG.trans {R S:DR} (h:DG p num m E R) (k:DG p num m R.1 S):DG p num m E S:=⟨h.1.trans k.1,k.2⟩
theorem PG.add (h:PG p m E fs) (hA:AddOK p num E i sc E' q):PG p m E' fs:=by
 have:=hA.len;exact⟨by have:=h.1;omega,hA.bit h.2.1,λd hd=>(h.2.2 d hd).mono aa⟩
theorem K3 {a b:Int} (h:jW a b=false):1<=a/\a<=8:=by
 unfold jW at h
 grind
theorem DP {s:Nat} {R:List Ent×List Int×Int×Int} (h:PG p m E fs) (hR:ElG p num m E [] 0 s R) (hs:s<=2048) (hi:i+3<p.length) (hwd:(p.getD i dN).op≠16->1<=aj p (i+3)/\aj p (i+3)<=8):
 DG p num m E (i_ i sc fs R):=by
 obtain⟨g1,g2,g3,g4,g5,g6⟩:=hR;have hl:=g1.len;simp only[Z0e,Z0c] at g4;refine⟨g1,g2,λd hd=>?_⟩;unfold i_ ud at hd;simp only at hd
 have old:∀ d∈fs,FdOK p m R.1.length d:=λd hd=>(h.2.2 d hd).mono hl
 split at hd
 ·rcases Z0w.1 hd with hd|hd
  ·exact old d hd
  ·have:=Z0m.1 hd
   subst this;exact⟨⟨i,rfl,hi,hwd⟩,EN sc,g3,ae,g5,ae⟩
 ·exact old d hd
theorem ng (H:PrO p):∀ (N:Nat) (t:Fo) (i:Nat) (sc:Pth) (E:List Ent) (fs:List Fd),t.size<=N->t.At p i->t.V (List.replicate t.cnt (false,68))->PG p m E fs->DG p num m E (aX p num false t i sc E fs)
 |_,.nil,i,sc,E,fs,_,_,_,h=>by rw[aX];exact DG.refl h
 |0,.cons x k n,_,_,_,_,hN,_,_,_=>by simp only[Fo.size] at hN;omega
 |N+1,.cons x k n,i,sc,E,fs,hN,ha,hv,h=>by
  simp only[Fo.size] at hN;have hp:=H.hp;have hi:=At.lt ha;have hx:=At.get ha;have hsz:=At.size_le (Z1k hi) ha;simp only[Fo.size] at hsz;have hkV:=hv.2.1;have hkA:=ha.2.2.1;obtain⟨hi1,_⟩:=nc (.inl rfl) ha hv
  have one:DG p num m E (aX p num false (.cons x k .nil) i sc E fs):=by
   rw[ug];unfold gS;by_cases h10:x.op=10
   ·rw[if_pos h10]
    rw[h10,wg] at hkV;obtain⟨bl,hz,hbl⟩:=aV [110] k rfl hkV;obtain⟨hb1,hb2⟩:=hbl p (i+1) hkA;split
    ·exact DG.refl h
    ·split
     ·exact DG.refl h
     ·show DG p num m E (aX p num true k (i+1) _ E fs)
      rw[eK (p:=p) (num:=num) [110] k rfl hkV];simp only[Z0n] at hz;exact ng H N (am k) _ _ E fs aa hb1.2.2.1 hb2.2.1 h
   rw[if_neg h10];by_cases h16:x.op=16
   ·rw[if_pos h16]
    have hop:(p.getD i dN).op=16:=ae;rw[h16,wh] at hkV;obtain⟨bl,hz,hbl⟩:=aV [110,105,105] k rfl hkV;obtain⟨hb1,hb2⟩:=hbl p (i+1) hkA;simp only[Z04,Z0e] at hz;rw[show i+1+([110,105,105]:List Int).length=i+4 from rfl] at hb1
    exact DP h (uc H sc _ _ (am k) (i+4+1) E [] 0 hb1.2.2.1 hb2.2.1 h.1 h.2.1 (Z2l _) aa (λu hu=>by cases hu)) aa ((H.hN i hi).2.2.1 (.inr hop)) λe=>absurd hop e
   rw[if_neg h16];by_cases h17:x.op=17
   ·rw[if_pos h17]
    have hop:(p.getD i dN).op=17:=ae;rw[h17,v8] at hkV;obtain⟨bl,hz,hbl⟩:=aV [110,110,105,105] k rfl hkV;obtain⟨hb1,hb2⟩:=hbl p (i+1) hkA;simp only[Z04,Z0e] at hz;rw[show i+1+([110,110,105,105]:List Int).length=i+5 from rfl] at hb1;have hi4:=(H.hN i hi).2.1 (.inr (.inr hop))
    refine DP h (uc H sc _ _ (am k) (i+5+1) E [] 0 hb1.2.2.1 hb2.2.1 h.1 h.2.1 (Z2l _) aa (λu hu=>by cases hu)) aa aa λ_=>?_
    have ho:=H.hO i hi;unfold aN at ho;rw[hop] at ho;simp at ho;exact K3 ho
   rw[if_neg h17];have hao:=pb 0 [] num p H.hp H.hw E i hi1 sc;generalize bt p num E i sc=A at hao |-;obtain⟨E2,id,q,e⟩:=A;simp only at hao |-
   rcases hao with ⟨rfl,he⟩|⟨rfl,rfl,hA⟩
   ·rw[if_pos he];exact DG.refl h
   ·rw[if_neg aq]
    have h2:=h.add hA
    have hs:DG p num m E (E2,fs,0):=⟨hA.gro hi1,h2.2.1,h2.2.2⟩
    split
    ·rename_i hb
     rcases hb with hb|hb
     ·rw[hb,we] at hkV
      obtain⟨bl,hz,hbl⟩:=aV [115] k rfl hkV;obtain⟨hb1,hb2⟩:=hbl p (i+1) hkA;show DG p num m E (aX p num true k (i+1) _ E2 fs);rw[eK (p:=p) (num:=num) [115] k rfl hkV];simp only[Z0n] at hz;exact hs.trans (ng H N (am k) _ _ E2 fs aa hb1.2.2.1 hb2.2.1 h2)
     ·rw[hb,wa] at hkV
      obtain⟨bl,hz,hbl⟩:=aV [115,105,105] k rfl hkV;obtain⟨hb1,hb2⟩:=hbl p (i+1) hkA;show DG p num m E (aX p num true k (i+1) _ E2 fs);rw[eK (p:=p) (num:=num) [115,105,105] k rfl hkV];simp only[Z04,Z0e] at hz;exact hs.trans (ng H N (am k) _ _ E2 fs aa hb1.2.2.1 hb2.2.1 h2)
    ·exact hs
  rw[wZ];split
  ·exact one.trans (ng H N n _ sc _ _ aa ha.2.2.2 hv.2.2 (one.pg h.1))
  ·exact one
end
end
section
variable {E:List Ent} {k:Nat}
def RegE (T:List Tb) (E:List Ent):Prop:=∀ k,k<E.length->(E.getD k eZ).op=15->RegAt T (E.getD k eZ) (bX T (E.getD k eZ) 2) (bX T (E.getD k eZ) 3) (bX T (E.getD k eZ) 4)
def gf (p:List Nd) (T:List Tb):List Fd->List Ent->List Int->List Ent×List Int×Int
 |[],E,rs=>(E,rs,0)
 |d::fs,E,rs=>if (gk p T d d.node.toNat E rs).2.2=0 then gf p T fs (gk p T d d.node.toNat E rs).1 (gk p T d d.node.toNat E rs).2.1 else gk p T d d.node.toNat E rs
section
variable {p:List Nd} {num:Int} {m:Nat} {T:List Tb}
theorem ip {α:Type} {l:List α} {y d:α} (h:k<l.length):(l++[y]).getD k d=l.getD k d:=ae
theorem jN {α:Type} {l:List α} {y d:α} {j:Nat} (h:j<l.length):(l.set j y).getD k d=if j=k then y else l.getD k d:=ae
theorem xJ (sp ba ln idx dat:Int):∀ (us:List Int) (E:List Ent),(∀ u∈us,(m:Int)<=u/\u<E.length)->BitO E->Gro p num m E (eB sp ba ln idx dat us E).1/\BitO (eB sp ba ln idx dat us E).1/\(eB sp ba ln idx dat us E).1.length=E.length
 |[],E,_,hb=>⟨.refl _,hb,rfl⟩
 |u::us,E,hu,hb=>by
  have h:=hu u aq;rw[eB];split
  ·obtain⟨g1,g2,g3⟩:=xJ sp ba ln idx dat us (E.set u.toNat (uM (E.getD u.toNat eZ) sp ba ln idx dat)) (λv hv=>by grind) (hb.set (y:=uM (E.getD u.toNat eZ) sp ba ln idx dat) (hb u.toNat) _)
   exact⟨.spec (y:=uM (E.getD u.toNat eZ) sp ba ln idx dat) aa aa ⟨rfl,rfl,rfl,rfl,rfl⟩ g1,g2,ae⟩
  ·exact⟨.refl _,hb,rfl⟩
def RefG (N:Nat) (rs:List Int):Prop:=∀ r∈rs,0<=r/\r<(N:Int)
theorem RefG.app {N:Nat} {a b:List Int} (h:RefG N a) (k:RefG N b):RefG N (a++b):=λr hr=>by
 rcases Z0w.1 hr with e|e
 ·exact h r e
 ·exact k r e
theorem RefG.one {N:Nat} (h:k<N):RefG N [(k:Int)]:=λr hr=>by grind
theorem RefG.nat {s:By} {i:Nat} {op:Int} {r:Option Nat} (h:eY p E s i op=r):RefG E.length (qX r):=by
 cases r with
 |none=>intro x hx;cases hx
 |some k=>exact RefG.one (mY h).1
theorem DY (r:Option Nat):(qX r).length<=1:=by cases r<;>simp[qX]
theorem Do {d:Fd} {i:Nat} {rs:List Int} (hd:FdOK p m E.length d) (hb:BitO E) (hr:RefG E.length rs):
 (Gro p num m E (gk p T d i E rs).1/\BitO (gk p T d i E rs).1)/\(gk p T d i E rs).1.length=E.length/\RefG E.length (gk p T d i E rs).2.1/\(gk p T d i E rs).2.1.length<=rs.length+2:=by
 unfold gk;split
 ·cases h1:eY p E d.scope (i+1) 15 with
  |none=>exact⟨⟨.refl _,hb⟩,rfl,hr,Z1o _ _⟩
  |some k=>
   obtain⟨g1,g2,g3⟩:=xJ (p:=p) (num:=num) (bX T (E.getD k eZ) 2) (bX T (E.getD k eZ) 3) (bX T (E.getD k eZ) 4) (-1) (-1) d.units E hd.units hb;exact⟨⟨g1,g2⟩,g3,hr.app (RefG.one (mY h1).1),aq⟩
 ·cases h1:eY p E d.scope (i+1) 18 with
  |none=>
   refine⟨⟨.refl _,hb⟩,rfl,(hr.app (RefG.nat h1)).app (RefG.nat (r:=eY p E d.scope (i+2) 18) rfl),?_⟩
   grind [DY]
  |some a=>
   cases h2:eY p E d.scope (i+2) 18 with
   |none=>exact⟨⟨.refl _,hb⟩,rfl,(hr.app (RefG.one (mY h1).1)).app (RefG.nat h2),by simp[qX]⟩
   |some c=>
    obtain⟨g1,g2,g3⟩:=xJ (p:=p) (num:=num) 0 0 ((d.bits+8*aj p (i+3)-1).tdiv (8*aj p (i+3))*aj p (i+3)) a c d.units E hd.units hb;exact⟨⟨g1,g2⟩,g3,(hr.app (RefG.one (mY h1).1)).app (RefG.one (mY h2).1),aq⟩
theorem Df:∀ (fs:List Fd) (E:List Ent) (rs:List Int),(∀ d∈fs,FdOK p m E.length d)->BitO E->RefG E.length rs->
 Gro p num m E (gf p T fs E rs).1/\BitO (gf p T fs E rs).1/\(gf p T fs E rs).1.length=E.length/\RefG E.length (gf p T fs E rs).2.1
 |[],E,rs,_,hb,hr=>⟨.refl _,hb,rfl,hr⟩
 |d::fs,E,rs,hd,hb,hr=>by
  obtain⟨⟨g1,g2⟩,g3,g4,_⟩:=Do (p:=p) (num:=num) (T:=T) (i:=d.node.toNat) (hd d aq) hb hr;rw[gf];split
  ·obtain⟨k1,k0,k2,k3⟩:=Df fs _ _ (λx hx=>by grind) g2 (by rw[g3];exact g4)
   rw[g3] at k2 k3;exact⟨g1.trans k1,k0,k2,k3⟩
  all_goals grind
theorem JO {a b c:Int} (h:jf a b c=false):a<=3/\b<=9223372036854775808/\c<=1048576:=by
 unfold jf at h
 grind
theorem RegAt.same {x y:Ent} (h1:x.tab=y.tab) (h2:x.node=y.node) {a b c:Int} (h:RegAt T y a b c):RegAt T x a b c:=by
 obtain⟨⟨j,nd,e1,e2,e3,r⟩,s⟩:=h;exact⟨⟨j,nd,ae,e2,ae,r⟩,‹_›,‹_›,‹_›,‹_›,‹_›,‹_›⟩
theorem mL {x y:Ent} (h1:x.tab=y.tab) (h2:x.node=y.node) (o:Nat):bX T x o=bX T y o:=by unfold bX;rw[h1,h2]
theorem RegE.gro (H:PrO p) (hT:∃ j:Nat,num=1+(j:Int)/\j<T.length/\(T.getD j tZ).p=p) {E':List Ent} (h:Gro p num m E E') (hE:RegE T E):RegE T E':=by
 induction h with
 |refl=>exact hE
 | @add E0 E1 E2 i sc q hi h _ ih=>
   refine ih ?_;obtain⟨ab,c,_,_,rfl⟩:=h.up;intro k hk ho
   rcases Z0a k E0.length with e|e
   ·rw[ip e] at ho |-
    exact hE k e ho
   ·obtain rfl:k=E0.length:=ae
    have hg:(E0++[cV (aM q) (p.getD i dN).op c num i]).getD E0.length eZ=cV (aM q) (p.getD i dN).op c num i:=aq;rw[hg] at ho |-;have ho:(p.getD i dN).op=15:=ho;obtain⟨j,e1,e2,e3⟩:=hT;have hil:i<p.length:=aa;have hn:=(H.hN i hil).2.1 (.inr (.inl ho));have hr:=H.hO i hil;unfold aN at hr;rw[ho] at hr
    have h0:∀ j,0<=(p.getD j dN).int:=λj=>ce H.hI j
    have hreg:∀ o,bX T (cV (aM q) 15 c num i) o=(p.getD (i+o) dN).int:=λo=>by
     unfold bX;show ((T.getD (num-1).toNat tZ).p.getD (((i:Nat):Int).toNat+o) dN).int=_;rw[show (num-1).toNat=j by omega,e3];rfl
    rw[ho,hreg,hreg,hreg];have hp:=H.hp;have k2:=h0 (i+2);have k3:=h0 (i+3);have k4:=h0 (i+4);simp at hr;obtain⟨r1,r2,r3⟩:=JO hr;unfold aj at r1 r2 r3;exact⟨⟨j,i,e1,e2,rfl,⟨ae,aa⟩,by rw[e3],by rw[e3],by rw[e3]⟩,k2,aa,k3,aa,k4,aa⟩
 | @spec E0 E2 j y hm hj hs _ ih=>
   refine ih ?_;intro k hk ho;rw[Z18] at hk;rw[jN hj] at ho |-;split at ho
   ·rename_i e
    subst e;rw[if_pos rfl];rw[mL hs.2.2.2.1 hs.2.2.2.2,mL hs.2.2.2.1 hs.2.2.2.2,mL hs.2.2.2.1 hs.2.2.2.2];exact RegAt.same hs.2.2.2.1 hs.2.2.2.2 (hE j hj (by rw[<-hs.2.1];exact ho))
   ·rename_i e
    rw[if_neg e];exact hE k hk ho
theorem RegE.tab (T':List Tb) (hl:T.length<=T'.length) (hT:∀ j,j<T.length->(T'.getD j tZ).p=(T.getD j tZ).p) (hE:RegE T E):RegE T' E:=by
 intro k hk ho;obtain⟨⟨j,nd,e1,e2,e3,⟨e4,e4'⟩,e5,e6,e7⟩,s0,s1,b0,b1,l0,l1⟩:=hE k hk ho
 have hreg:∀ o,bX T' (E.getD k eZ) o=bX T (E.getD k eZ) o:=λo=>by
  unfold bX;rw[e1,show ((1:Int)+(j:Int)-1).toNat=j by omega,hT j e2]
 rw[hreg,hreg,hreg];refine⟨⟨j,nd,e1,aa,e3,⟨ae,e4'⟩,?_,?_,?_⟩,s0,s1,b0,b1,l0,l1⟩
 all_goals grind
end
end
abbrev I0 (l:List Nat):List S:=l.map λ(j:Nat)=>S.int .i64 (j:Int)
abbrev ntB (l:List Nat):Bl:={cells:=I0 l,ty:=3,sym:=true,flat:=true}
theorem J7 (l:List Nat) {n:Nat} (h:n<l.length):(I0 l)[n]? =some (.int .i64 ((l.getD n 0:Nat):Int)):=ae
theorem J6 (n:Nat):I0 (List.replicate n 0)=List.replicate n (.int .i64 0):=by simp[I0]
theorem E6 (p:List Nd) (hp:p.length<=2048) (h0:0<p.length) (t:Fo) {cs:List (Bool×Int)} (ha:t.At p 0) (hv:t.V cs) (hs:t.size=p.length):
 FQ 68 [al p] 0 [] (.s (.frz (λk=>[.int .i64 (((cz t).getD k 0:Nat):Int)]) 1 (cz t).length)) 0 []:=by
 have hsz:(Tryz.prog.types[3]).size=1:=aK;have hby:(Tryz.prog.types[3]).bytes=8:=aK
 have hel:(cz t).length=p.length:=by rw[cz,Z0z,Z2e,hs]
 refine wW Tryz.func68 ?_
 repeat'(first|refine yA ?_|refine y2 ?_ ?_|exact y5|fail)
 refine mo [.idx p.length,.idx p.length] rfl rfl ⟨rfl,rfl,Z02 _,?_,aa⟩ ?_
 ·grind
 repeat'(first|refine yA ?_|refine y2 ?_ ?_|exact y5|fail)
 refine cy (σ:=Nat) (λi=>[(4,.s (.int .i64 ((i:Int)-1)))]) (λi=>[(0,some (ntB (iU t i)))]) (λi=>i<=p.length) (λi=>i) p.length rfl (λ_=>rfl) (Z02 _) aP ⟨by rw[<-hs,Fa,hs,ntB,J6];rfl,trivial⟩ ?_;intro i hi
 cases i with
 |zero=>
  repeat'(first|refine y1 ?_|refine y2 ?_ ?_|refine y4 λh=>?_|refine Ex.fz 2 (λk=>[.int .i64 (((cz t).getD k 0:Nat):Int)]) 1 rfl rfl rfl rfl (λ_ _=>rfl) ?_ rfl rfl ?_|refine dv (.inl rfl) rfl (bB (by show _=V.s (.frz _ 1 (cz t).length);rw[hel];rfl)) rfl|refine y3 ?_|exact y5|fail)
  intro k j x hk hx
  cases j with
  |succ j=>simp at hx
  |zero=>
   simp only[Z11,Z06] at hx;subst hx;rw[Cd];refine⟨?_,rfl⟩
   grind
 |succ i=>
  refine gH 4 (nI i) (bB (congrArg nI ae)) rfl ?_;obtain⟨sl,k1,k2⟩:=cM (i:=i) ha hv (Z08 i) aa
  have hkid:(p.getD i dN).kids=(((t.kid 0 i).starts (i+1)).length:Nat):=by rw[bE];exact k1.2.1
  have hch:=At.chain k1.2.2.1
  have hcn:((t.kid 0 i).starts (i+1)).length<=2048:=by
   rw[bE];have h1:=Fo.cnt_le (t.kid 0 i);have h2:=At.size_le (Z1k (At.lt k1)) k1;simp only[Fo.size] at h2;omega
  have hul:=E9 t (i+1);generalize hcs:(t.kid 0 i).starts (i+1)=st at*
  repeat'(first|refine yA ?_|refine y2 ?_ ?_|refine y4 λh=>?_|exact y5|fail)
  rw[hkid];refine cy (σ:=List Nat×Nat×Nat) (λq=>[(5,nI q.2.1),(23,nI q.2.2)]) (λq=>[(0,some (ntB (iU t (i+1))))]) (λq=>Chain p (i+1+(t.kid 0 i).size) q.2.1 q.1/\q.2.2+q.1.length=st.length/\i+1<=q.2.1) (λq=>q.1.length) (st,i+1,0) rfl (λ_=>rfl) ⟨hch,ae,Z02 _⟩ aP ⟨rfl,trivial⟩ ?_;rintro⟨rest,cur,c⟩ ⟨c1,c2,c3⟩;simp only at c1 c2 c3 |-
  cases c1 with
  |nil=>
   simp only[Z0e] at c2;have e6:=E8 (t:=t) (i:=i) aa
   repeat'(first|refine y1 ?_|refine y2 ?_ ?_|refine y4 λh=>?_|refine RegX.sto [.cells (I0 (iU t i))] rfl rfl ⟨?_,?_⟩ rfl ?_|refine y3 ?_|exact y5|fail)
   all_goals try first
    |(show bU 0 (bQ i (Tryz.prog.types[3]).size)+1<=(I0 (iU t (i+1))).length;rw[hsz,ak,ao,Z0z,hul];omega)
    |(show _=(I0 (iU t (i+1))).set (bU 0 (bQ i (Tryz.prog.types[3]).size)) _;rw[hsz,ak,ao,Z0c,Z1p,<-e6];exact Z4l)
   exact dz i aa aa rfl aP ⟨rfl,trivial⟩ rfl rfl ac
  | @cons _ e l he r=>
    simp only[Z04] at c2
    have hlt:cur<p.length:=by cases he with|step h _ _ _=>exact h
    obtain⟨sl2,m1,m2⟩:=cM (i:=cur) ha hv (Z08 cur) aa
    have hee:(iU t (i+1)).getD cur 0=e:=by rw[E_ aa c3];exact (At.ends1 m1).uniq he
    have hle:=he.le.1
    repeat'(first|refine y1 ?_|refine y2 ?_ ?_|refine y4 λh=>?_|refine gG [.val (nI ((iU t (i+1)).getD cur 0:Nat))] rfl rfl ?_ rfl ?_|refine y3 ?_|exact y5|fail)
    all_goals try (show (match (I0 (iU t (i+1)))[bU 0 (bQ cur (Tryz.prog.types[3]).size)]? with|some x=>some (V.s x)|none=>none)=_;rw[hsz,ak,ao,Z0c,Z1p,J7 _ aa])
    rw[hee];exact dz (l,e,c+1) ⟨r,ae,ae⟩ aq rfl aP ⟨rfl,trivial⟩ rfl rfl ac
theorem E5:FQ 68 [al []] 0 [] (.s (.frz (λk=>[.int .i64 (((cz Fo.nil).getD k 0:Nat):Int)]) 1 (cz Fo.nil).length)) 0 []:=by
 refine wW Tryz.func68 ?_
 repeat'(first|refine yA ?_|refine y2 ?_ ?_|exact y5|fail)
 refine mo [.idx 0,.idx 0] rfl rfl ⟨rfl,rfl,Z02 _,ac,ac⟩ ?_
 repeat'(first|refine yA ?_|refine y2 ?_ ?_|exact y5|fail)
 refine cy (σ:=Unit) (λi=>[(4,.s (.int .i64 (-1)))]) (λi=>[(0,some (ntB []))]) (λi=>True) (λi=>0) () rfl (λ_=>rfl) trivial aP ⟨rfl,trivial⟩ ?_;intro i hi
 repeat'(first|refine y1 ?_|refine y2 ?_ ?_|refine y4 λh=>?_|refine Ex.fz 2 (λk=>[.int .i64 (((cz Fo.nil).getD k 0:Nat):Int)]) 1 rfl rfl rfl rfl (λ_ _=>rfl) ?_ rfl rfl ?_|refine dv (.inl rfl) rfl (ah _) rfl|refine y3 ?_|exact y5|fail)
theorem Co:SC Tryz.prog 67 [.s (.slc none 0 (some 0))] 0 [] (al []) 0 []:=by
 refine (FC.walk (v:=al []) aK Tryz.func67 rfl rfl ?_).2
 repeat'(first|refine y1 ?_|refine y2 ?_ ?_|refine y4 λh=>?_|refine dv (.inl rfl) rfl ?_ rfl|refine y3 ?_|exact y5|fail)
 exact VLe.s SLe.nil
theorem Cn:SC Tryz.prog 67 [.s .emq] 0 [] (al []) 0 []:=by
 refine (FC.walk (v:=al []) aK Tryz.func67 rfl rfl ?_).2
 repeat'(first|refine y1 ?_|refine y2 ?_ ?_|refine RegX.atCmp (CmpG.nn false trivial rfl (.inl ⟨rfl,rfl⟩) rfl rfl ?_)|refine y3 ?_|exact y5|fail)
 refine mo [.app 0 []] rfl rfl ⟨rfl,rfl,rfl,rfl,rfl,rfl,(λh=>nomatch h),ae,ac⟩ ?_
 repeat'(first|refine y1 ?_|refine y2 ?_ ?_|refine gH 2 (al []) (VLe.s (λφ x h=>SLe.emqfrz φ x (SLe.slaemq φ x h))) rfl ?_|refine dv (.inl rfl) rfl (ah _) rfl|refine y3 ?_|exact y5|fail)
theorem FD (p:List Nd) (hp:p.length<=2000000000):FQ 67 [al p] 0 [] (al p) 0 []:=by
 cases p with
 |nil=>exact⟨aK,SC.split2 (pre:=[]) (post:=[]) (λφ x h=>qe h) Co Cn⟩
 |cons s t=>
  have hnp:((s::t).flatMap ndC).all bZ=true:=mP {cells:=[],ty:=0,flat:=true} (s::t);refine wW Tryz.func67 ?_
  repeat'(first|refine y1 ?_|refine y2 ?_ ?_|refine RegX.atCmp (CmpG.nn false (Z1n _) rfl (.inl ⟨rfl,rfl⟩) rfl rfl ?_)|refine y3 ?_|exact y5|fail)
  refine mo [.app (s::t).length ((s::t).flatMap ndC)] rfl rfl ⟨rfl,trivial,rfl,by rw[Z0c],?_,?_,(λh=>nomatch h),?_,aa⟩ ?_
  ·rw[aD,Z24];rfl
  ·rw[aD];exact mP _ _
  ·rw[show (Tryz.prog.types[49]).bytes=40 by kernel_rfl];omega
  repeat'(first|refine y1 ?_|refine y2 ?_ ?_|refine Ex.fz 2 (λk=>ndC ((s::t).getD k dN)) 4 rfl rfl rfl rfl (λ_ _=>rfl) ?_ rfl rfl ?_|refine dv (.inl rfl) rfl (ah _) rfl|refine y3 ?_|exact y5|fail)
  intro k j x hk hx;have h:=cq ndC 4 dN (λ_=>rfl) hk hx;refine⟨h,?_⟩
  rcases j with _|_|_|_|j
  ·cases hx;rfl
  ·cases hx;rfl
  ·cases hx;rfl
  ·cases hx;rfl
  ·simp[ndC] at hx
theorem OpL.fz {P:Program} {o:Oper} {env:List V} {n n':Nat} {M L:Hp} {i g N:Nat} {bl:Bl} (get:Nat->List S) (sz:Nat) (h:OpL P o env n M (.s (.sla i g N)) n' L) (hl:lk L i=some bl) (hro:bl.ro=false) (hk:bl.kind=none)
 (hg:∀ k,k<N->(get k).length=sz) (hc:∀ k j x,k<N->(get k)[j]? =some x->bl.cells[k*sz+j]? =some x/\bL x=true):OpL P o env n M (.s (.frz get sz N)) n' (put L i none):=by
 intro φ0 a w0 Q hop hg0 hf;refine Z4v ?_ (h φ0 a w0 Q hop hg0 hf);rintro a' w ⟨φ,y,ea,hv,h2,st,hag⟩;obtain⟨b0,hb0,pre,xs,rest,fr,p1,hp,p2,p3,p4,p5⟩:=h2.hr i bl hl;rw[hk] at p1;simp only[di] at p1
 let φ':Ph:=⟨φ.f,λx=>if x=b0.1 then some (pre++(xs++rest)) else φ.z x⟩
 have hz0:φ.z b0.1=none:=by
  cases e:φ.z b0.1 with
  |none=>rfl
  |some l=>exact absurd ⟨i,bl,b0,hl,hb0,rfl,hro⟩ (h2.fz b0.1 l e).2
 have zle:∀ x l,φ.z x=some l->φ'.z x=some l:=by
  grind
 have hle:φ.le φ':=⟨λ_ _ h=>h,zle⟩
 have sub:xy (put L i none) L:=by
  intro j bj hj
  grind [aC]
 have good':Ab.Good φ' (put L i none) w:=by
  refine⟨λj bj hj=>?_,λj j' bj bj' c c' hj hj' hc hc' hcc=>h2.inj j j' bj bj' c c' (sub j bj hj) (sub j' bj' hj') hc hc' hcc,λx l hx=>?_,h2.gz.mono zle⟩
  ·obtain⟨c,hc,hat⟩:=h2.hr j bj (sub j bj hj)
   exact⟨c,hc,hat.mono hle rfl⟩
  ·by_cases e:x=b0.1
   ·subst e
    simp only[φ',if_true,Z06] at hx;subst hx;refine⟨⟨bl.ty,fr,p1⟩,?_⟩;rintro⟨j,bj,c,hj,hc,hcb,hroj⟩;have hj':=sub j bj hj
    rcases h2.inj j i bj bl c b0 hj' hl hc hb0 hcb with rfl|⟨e,_⟩
    all_goals grind [aC]
   ·simp only[φ',if_neg e] at hx
    exact⟨(h2.fz x l hx).1,λhw=>(h2.fz x l hx).2 (Wr.sub sub (by obtain⟨j,bj,c,hj⟩:=hw;exact⟨j,bj,c,hj⟩))⟩
 have hval:Vr φ' (.s (.frz get sz N)) y:=by
  obtain⟨b1,kk,hb1,_,e,hmk⟩:=hv;rw[hb0] at hb1;cases hb1;rw[e];refine .frz get sz N b0.1 b0.2 kk (pre++(xs++rest)) ae hmk (λk j=>xs.getD (k*sz+j) Go.undef) (λk hk=>hg k hk) (λk j x hk hx=>?_) (λk j x hk hx=>?_)
  ·obtain⟨e,_⟩:=hc k j x hk hx
   obtain⟨v,hv,_⟩:=p2.get e
   have hlx:k*sz+j<xs.length:=by
    rcases Z0a (k*sz+j) xs.length with h|h
    ·exact h
    ·simp[Z0b h] at hv
   rw[Z4k b0.2,iJ pre _ hp,Z0x hlx,Z00,hv];rfl
  ·obtain⟨e,hpx⟩:=hc k j x hk hx
   obtain⟨v,hv,hs⟩:=p2.get e;rw[Z00,hv,Z22];exact ((hs.mono (bl.ph_le_self φ)).mono hle).pr hpx
 refine⟨φ',y,ea,hval,good',⟨st.os,st.tape,st.output,st.size,st.keep,λj bl1 d hj=>st.fresh j bl1 d (sub j bl1 hj),λx l hx=>zle x l (st.zle x l hx),λx l hx=>?_⟩,hag⟩;by_cases e:x=b0.1
 ·subst e
  by_cases hlt:b0.1<w0.heap.size
  ·obtain⟨k,bk,c,e1,e2,e3,e4,e5⟩:=st.fresh i bl b0 hl hb0 hlt
   refine .inr (.inr ⟨k,bk,c,e1,e2,e3,?_⟩)
   grind
  all_goals grind
 all_goals grind [st.zfr]
section
variable {P:Program} {b:Nat} {ops:Array Oper} {d:Bool} {acc:List Row} {os:List Oper} {env:List V} {n:Nat} {L:Hp} {R:Post}
theorem RegX.cpF {α:Type} (g:α->List S) (df:α) (l:List α) {dst:Option Tmp} {x0:Value} {tx:Tmp} {t tx' e:TypeId} {t':TypeId} {pos:String} {af:Array Edge} {gd:Option (Nat×Bool)} {dx:TypeDesc} {inf:TypeInfo} {zs:List S} {w mm:Nat} {c:Option Nat}
 (hx:cI x0=.s (.slc none mm c)) (hd:env.getD tx .undef=.s (.frz (λk=>g (l.getD k df)) w l.length))
 (ht:P.underlying t=some (.slice e)) (htx:P.underlying tx'=some dx) (hdx:iL dx=true) (hi:P.info? e=some inf) (hz:dW P e=some zs) (hsz:inf.size=zs.length) (hw:inf.size=w)
 (hg:∀ a,(g a).length=w) (hp:∀ (a:α) (j:Nat) (x:S),(g a)[j]? =some x->bL x=true) (hbig:l.length*inf.bytes<=140737488355328) (hmax:l.length<=140737488355328)
 (hwant:bf ops env ⟨dst,.call ⟨.builtin .append,#[.const x0,.tmp tx],#[t,tx']⟩,t',pos,af,gd⟩=some true)
 (kk:RegX P ops d (aE d ⟨dst,.call ⟨.builtin .append,#[.const x0,.tmp tx],#[t,tx']⟩,t',pos,af,gd⟩ [] [] acc) os (bg env dst (.s (.frz (λk=>g (l.getD k df)) w l.length))) (n+2) L R):
 RegX P ops d acc (⟨dst,.call ⟨.builtin .append,#[.const x0,.tmp tx],#[t,tx']⟩,t',pos,af,gd⟩::os) env n L R:=by
 refine RegX.op (foot:=[]) (wr:=[]) hwant ?_ aa kk;subst hw
 rcases Z21 l.length with h0|h0
 ·intro φ a w0 Q hop hg0 hf
  have g1:=hop (.const x0) (by simp[Op.operands,Call.operands]);have g2:=hop (.tmp tx) (by simp[Op.operands,Call.operands])
  replace g1:Vr φ (cI x0) (a.eval (.const x0)):=g1
  rw[hx] at g1
  replace g2:Vr φ (env.getD tx .undef) (a.eval (.tmp tx)):=g2
  rw[hd,h0] at g2;obtain⟨_,_,e1⟩:=g1;obtain⟨ad,k',e2⟩:=mW g2;unfold Oper.wp;rw[Ap ht htx hdx hi e1 e2,Z3q,h0];exact⟨φ,.slice none 0 0,rfl,.nil _ _ _ _ (λ_=>rfl),hg0,Stp.refl _ _ _,λ_ _=>rfl⟩
 ·have hfl:=k9 g df l
  have hlen:(l.flatMap g).length=l.length*inf.size:=kK hg l
  have pm:∀ x∈l.flatMap g,bL x=true:=λx hx=>by
   obtain⟨a,_,ha⟩:=Z2h.1 hx;obtain⟨j,hj⟩:=List.mem_iff_getElem?.1 ha
   grind
  have hfit:cf {cells:=[],ty:=e,flat:=false} (l.flatMap g)=true:=by
   unfold cf
   refine Z0i.2 λx hx=>?_
   have:=pm x hx
   cases x<;>first|rfl|cases this
  have core:=ez (P:=P) (env:=env) (n:=n) (L:=L) (o:=⟨dst,.call ⟨.builtin .append,#[.const x0,.tmp tx],#[t,tx']⟩,t',pos,af,gd⟩) (d:=.const x0) (x:=.tmp tx) (fl:=false) (bi:=none) (len:=0) (bl:={cells:=[],ty:=e,flat:=false}) (C:=True) (m:=l.length) (m0:=l.length) (xs:=l.flatMap g) (cs:=l.flatMap g) (sy:=true) (r:=l.length) (foot:=[]) (D:=True)
   rfl rfl rfl rfl rfl ht htx hdx hi hz hsz (by show fG P L e inf.size false (cI x0)=_;rw[hx];simp only[fG,hz,Z2c]) (by
    show gc L inf.size l.length (iF (env.getD tx .undef))=_;rw[hd]
    simp only[iF,wkS,gc,Z2n,hfl]) trivial trivial rfl aa aq hfit (λ_=>h0) hbig hmax
  refine OpL.conv (λx _=>ah _) (λj=>rfl) (ah _) ?_ (OpL.fz (λk=>g (l.getD k df)) inf.size core (i:=n) (by simp only[fB,Z1e,aA];rw[aC,if_pos rfl]) rfl rfl (λk _=>hg _) λk j x hk hx=>⟨cq g inf.size df hg hk hx,hp _ _ _ hx⟩);intro j bl' hj;have hj:lk (res [] L) j=some bl':=hj;simp[res,lk] at hj
end
def vY (O:List Ro):List Pth->Option Int
 |[]=>none
 |c::t=>if 0<=qO (aM c) O then some (qO (aM c) O) else vY O t
def dG (O:List Ro) (s nm:By):Option Int:=if (ai s).2=true/\(ai nm).2=true/\(ai s).1.root=true then vY O (aS (ai s).1 (ai nm).1) else none
theorem Ei (O:List Ro) (nt nl:Nat) (nx nh:Int) (s nm:By) (hs:s.length<=4398046511104) (hn:nm.length<=4398046511104) (hO:O.length<=100000) (h0:0<O.length):
 FQ 21 [.s (.ptr (some (0,0))),sV s,sV nm] 7 (uN O nt nl nx nh) (.tup [.s (.int .i64 ((dG O s nm).getD 0)),.s (.bool (dG O s nm).isSome)]) 7 (uN O nt nl nx nh):=by
 have h1:=eG s hs;have h2:=eG nm hn;have hso1:=dC s;have hso2:=dC nm;unfold dG;generalize ai s=r1 at*;generalize ai nm=r2 at*;obtain⟨q1,ok1⟩:=r1;obtain⟨q2,ok2⟩:=r2;refine wW Tryz.func21 ?_;cases ok1
 ·
  repeat'(first|refine yA ?_|refine y2 ?_ ?_|refine an h1 ?_|refine an h2 ?_|exact y5|fail)
  all_goals exact bK
 cases ok2
 ·
  repeat'(first|refine yA ?_|refine y2 ?_ ?_|refine an h1 ?_|refine an h2 ?_|exact y5|fail)
  all_goals exact bK
 obtain⟨root,up,segs⟩:=q1;cases root
 ·
  repeat'(first|refine yA ?_|refine y2 ?_ ?_|refine an h1 ?_|refine an h2 ?_|exact y5|fail)
  all_goals exact bK
 simp only[and_self,if_true];have hcd:=A0 ⟨true,up,segs⟩ q2 hso1 hso2
 have hcl:(aS ⟨true,up,segs⟩ q2).length<=2000000000:=by
  unfold aS;split
  ·simp
  ·rename_i h
   split
   ·split<;>simp
   ·have:=fW segs (q2.segs.headD []) segs.length
    have hb:bR ⟨true,up,segs⟩=true:=by cases hq:bR ⟨true,up,segs⟩<;>simp_all
    have:=(cT hb).2.2;simp only at this |-;omega
 have hsc:=λc=> @pA ⟨true,up,segs⟩ q2 c
 generalize aS ⟨true,up,segs⟩ q2=cs at*
 repeat'(first|refine yA ?_|refine y2 ?_ ?_|refine an h1 ?_|refine an h2 ?_|refine an hcd ?_|exact y5|fail)
 refine cy (σ:=Nat) (λj=>[(13,nI j)]) (λj=>uN O nt nl nx nh) (λj=>j<=cs.length/\vY O (cs.drop j)=vY O cs) (λj=>cs.length-j) 0 rfl (λ_=>rfl) ⟨Z08 _,rfl⟩ aP ⟨rfl,rfl,trivial⟩ ?_;rintro j ⟨j1,j2⟩;by_cases h:j<cs.length
 ·have hd:cs.drop j=cs.getD j z0::cs.drop (j+1):=by
   rw[Z0k h,Z00,Z01 h];rfl
  rw[hd,vY] at j2
  have hmem:cs.getD j z0∈cs:=by rw[Z00,Z01 h];exact Z0s _
  have hf:=kZ (cs.getD j z0) (hsc _ hmem);have hat:=KV O nt nl nx nh (aM (cs.getD j z0)) hO h0;generalize qO (aM (cs.getD j z0)) O=w at*;by_cases ho:0<=w
  ·rw[if_pos ho] at j2
   repeat'(first|refine yA ?_|refine y2 ?_ ?_|refine y4 λh=>?_|refine an hf ?_|refine wX (bD [0,1,2,3,4,5,6] hat ?_)|exact y5|fail)
   rw[<-j2];exact bK
  ·rw[if_neg ho] at j2
   repeat'(first|refine yA ?_|refine y2 ?_ ?_|refine y4 λh=>?_|refine an hf ?_|refine wX (bD [0,1,2,3,4,5,6] hat ?_)|exact y5|fail)
   exact dz (j+1) ⟨aa,j2⟩ aa rfl aP ⟨rfl,rfl,trivial⟩ rfl rfl ac
 ·rw[Z10 aa,vY] at j2
  rw[<-j2]
  repeat'(first|refine yA ?_|refine y2 ?_ ?_|refine y4 λh=>?_|exact y5|fail)
  all_goals exact bK
abbrev lf (G:List (Nat×Nat)):Bool:=G.all λd=>decide (d.2=6)
theorem MH (p:List Nd) (G:List (Nat×Nat)) (hG:G.length<=1000000000) (hck:FQ 23 [al p] 0 [] (oC G) 0 []):FQ 82 [al p] 0 [] (bV (lf G)) 0 []:=by
 refine wW Tryz.func82 ?_;generalize hR:lf G=R
 repeat'(first|refine yA ?_|refine y2 ?_ ?_|refine an hck ?_|exact y5|fail)
 refine cy (σ:=Nat) (λj=>[(4,nI j)]) (λ_=>[]) (λj=>j<=G.length/\lf (G.drop j)=R) (λj=>G.length-j) 0 rfl (λ_=>rfl) ⟨Z08 _,hR⟩ aP trivial ?_;rintro j ⟨hj,hI⟩;by_cases h:j<G.length
 ·have hd:G.drop j=G.getD j (0,0)::G.drop (j+1):=by
   rw[Z0k h,Z00,Z01 h];rfl
  rw[hd,lf,Z1b] at hI;by_cases ho:(G.getD j (0,0)).2=6
  ·rw[decide_eq_true ho,Z1r] at hI
   repeat'(first|refine yA ?_|refine y2 ?_ ?_|refine y4 λh=>?_|exact y5|fail)
   exact dz (j+1) ⟨aa,hI⟩ aa rfl aP trivial rfl rfl ac
  ·rw[decide_eq_false ho,Z2c] at hI
   subst hI
   repeat'(first|refine y1 ?_|refine y2 ?_ ?_|refine y4 λh=>?_|refine cL (.inl rfl) rfl ?_|refine y3 ?_|exact y5|fail)
 ·rw[Z10 aa] at hI
  subst hI
  repeat'(first|refine y1 ?_|refine y2 ?_ ?_|refine y4 λh=>?_|refine cL (.inl rfl) rfl ?_|refine y3 ?_|exact y5|fail)
