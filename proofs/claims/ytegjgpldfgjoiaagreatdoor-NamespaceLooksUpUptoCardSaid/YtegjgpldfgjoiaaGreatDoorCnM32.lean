import Derived.Test.YtegjgpldfgjoiaaGreatDoorCnM29
import Derived.Test.YtegjgpldfgjoiaaGreatDoorCnM20
import Derived.Test.YtegjgpldfgjoiaaGreatDoorCnM17
import Derived.Test.YtegjgpldfgjoiaaGreatDoorCnM19
import Derived.Test.YtegjgpldfgjoiaaGreatDoorCnM30
import Derived.Test.YtegjgpldfgjoiaaGreatDoorCnM26
import Derived.WalkKit
import Derived.ProofKit
import Derived.OpenShut
import Derived.ShutString
import Derived.ChangeOld
import Derived.Below
import Derived.Lib.SmallJoins
import Derived.Handed
import Derived.Lay
import Derived.LaidOnce
import Derived.Stop.Joined
import Derived.Deep.Slices
import Derived.Test.YtegjgpldfgjoiaaGreatDoorTie
import Derived.Test.YtegjgpldfgjoiaaGreatDoorCnM27
set_option linter.all false
namespace Go.Proofs.YtegjgpldfgjoiaaGreatDoor
open Go Ab
set_option maxRecDepth 100000
set_option maxHeartbeats 40000000
section
variable {E E':List Ent} {i:Nat} {sc q:Pth} {fs:List Fd}
structure PrO (p:List Nd):Prop where
 hp:p.length<=2048
 hw:mS p
 hI:pR p
 hO:∀ j,j<p.length->aK p j=false
 hN:∀ j,j<p.length->jH p j
structure FdOK (p:List Nd) (m N:Nat) (d:Fd):Prop where
 node:∃ i:Nat,d.node=i/\i+3<p.length/\((p.getD i dN).op≠16->1<=ai p (i+3)/\ai p (i+3)<=8)
 scope:d.scope.length<9223372036854775807
 units:∀ u∈d.units,(m:Int)<=u/\u<N
 len:d.units.length<=2048
 b0:0<=d.bits
 b1:d.bits<=20000000000
theorem FdOK.mono {p:List Nd} {m N N':Nat} {d:Fd} (h:FdOK p m N d) (hN:N<=N'):FdOK p m N' d:=
 ⟨h.node,h.scope,λu hu=>by have:=h.units u hu;omega,h.len,h.b0,h.b1⟩
def BitO (E:List Ent):Prop:=∀ k,(E.getD k eZ).bit<=1099511627776
theorem BitO.push {y:Ent} (h:BitO E) (hy:y.bit<=1099511627776):BitO (E++[y]):=by
 intro k
 rcases Z3g k E.length with e|e|e
 ·rw[Z00,Z0x e,<-Z00];exact h k
 ·subst e;simp;exact hy
 ·rw[Z00,Z0b (by simp;omega)]
  exact (ac:(0:Int)<=1099511627776)
theorem BitO.set {y:Ent} (h:BitO E) (hy:y.bit<=1099511627776) (j:Nat):BitO (E.set j y):=by
 intro k;rw[Z00,Z1i];split
 ·split
  ·exact hy
  ·exact (ac:(0:Int)<=1099511627776)
 ·rw[<-Z00];exact h k
theorem lQ (q:Pth):(aI q).length<=500:=by
 unfold aI;split
 ·rename_i h
  obtain⟨h1,h2,h3,_,h5,_⟩:=aJ h;have h6:=m7 h5;rw[Z03];split
  ·simp only[Z0n];omega
  ·rw[Z36];omega
 ·simp
theorem CD (q:Pth):(aI q).length<9223372036854775807:=by have:=lQ q;omega
section
variable {p:List Nd} {num:Int} {m:Nat}
theorem AddOK.gro (hi:i+1<p.length) (h:AddOK p num E i sc E' q):Gro p num m E E':=.add hi h (.refl _)
theorem AddOK.bit (hE:BitO E) (h:AddOK p num E i sc E' q):BitO E':=by
 obtain⟨ab,c,_,_,rfl⟩:=h.up;exact hE.push (ac:(0:Int)<=1099511627776)
def ElG (p:List Nd) (num:Int) (m:Nat) (E:List Ent) (us:List Int) (bits:Int) (s:Nat) (R:List Ent×List Int×Int×Int):Prop:=
 Gro p num m E R.1/\BitO R.1/\(∀ u∈R.2.1,(m:Int)<=u/\u<R.1.length)/\R.2.1.length<=us.length+s/\0<=R.2.2.1/\R.2.2.1<=bits+8388608*s
theorem se (H:PrO p) (sc:Pth) (wid upd:Int):∀ (kf:Fo) (c:Nat) (E:List Ent) (us:List Int) (bits:Int),kf.At p c->kf.V (List.replicate kf.cnt (false,70))->m<=E.length->BitO E->0<=bits->bits+8388608*kf.size<=20000000000->(∀ u∈us,(m:Int)<=u/\u<E.length)->
 ElG p num m E us bits kf.size (dB p num sc wid upd kf c E us bits)
 | .nil,c,E,us,bits,_,_,hm,hb,h0,h1,hu=>by
   unfold dB;exact⟨.refl _,hb,hu,Z1o _ _,h0,by simp only[Fo.size];omega⟩
 | .cons x k n,c,E,us,bits,ha,hv,hm,hb,h0,h1,hu=>by
   have hcl:=At.lt ha;have hx:=At.get ha;have hac:=hv.1.1;simp only[Fo.size] at h1
   have hbd:∀ j,0<=ai p j:=λj=>ca H.hI j
   rw[dB];by_cases h19:x.op=19
   ·rw[if_pos h19]
    have hop:(p.getD c dN).op=19:=by rw[hx];exact h19
    have hb1:=vX (H.hO c hcl) hop;have hb0:=hbd (c+1);obtain⟨g1,g2,g3,g4,g5,g6⟩:=se H sc wid upd n (c+1+k.size) E us (bits+ai p (c+1)) ha.2.2.2 hv.2.2 hm hb aa aa hu;exact⟨g1,g2,g3,by simp only[Fo.size];omega,g5,by simp only[Fo.size];omega⟩
   ·rw[if_neg h19]
    have h18:x.op=18:=by rcases GT hac with h|h;exact h;exact absurd h h19
    have hop:(p.getD c dN).op=18:=by rw[hx];exact h18
    have hb1:=vY (H.hO c hcl) hop;have hb0:=hbd (c+2);have hn:=(H.hN c hcl).2.2.2.1 (.inr (.inl hop));have hao:=nu 0 [] num p H.hp H.hw E c aa sc;generalize bt p num E c sc=A at hao |-;obtain⟨E2,id,q,e⟩:=A;simp only at hao |-
    rcases hao with ⟨rfl,he⟩|⟨rfl,rfl,hA⟩
    ·rw[if_pos he]
     exact⟨.refl _,hb,hu,Z1o _ _,h0,by simp only[Fo.size];omega⟩
    ·rw[if_neg an]
     have hlA:=hA.len;have hls:= @Z18 _ E2 E.length (Az (E2.getD E.length eZ) bits (ai p (c+2)) wid upd)
     obtain⟨g1,g2,g3,g4,g5,g6⟩:=se H sc wid upd n (c+1+k.size) (E2.set E.length (Az (E2.getD E.length eZ) bits (ai p (c+2)) wid upd)) (us++[(E.length:Int)]) (bits+ai p (c+2)) ha.2.2.2 hv.2.2 aa
      ((hA.bit hb).set (by show bits<=_;omega) _) aa aa (λu hu'=>by
        rcases Z0w.1 hu' with h|h
        ·have:=hu u h;omega
        ·have:=Z0m.1 h;omega)
     refine⟨.add aa hA (.spec (y:=Az (E2.getD E.length eZ) bits (ai p (c+2)) wid upd) hm aa ⟨rfl,rfl,rfl,rfl,rfl⟩ g1),g2,g3,?_,g5,by simp only[Fo.size];omega⟩;simp only[Z03,Z0n] at g4;simp only[Fo.size];omega
def PG (p:List Nd) (m:Nat) (E:List Ent) (fs:List Fd):Prop:=m<=E.length/\BitO E/\∀ d∈fs,FdOK p m E.length d
def DG (p:List Nd) (num:Int) (m:Nat) (E:List Ent) (R:DR):Prop:=Gro p num m E R.1/\BitO R.1/\∀ d∈R.2.1,FdOK p m R.1.length d
theorem DG.refl {e:Int} (h:PG p m E fs):DG p num m E (E,fs,e):=⟨.refl _,h.2.1,h.2.2⟩
theorem DG.pg {R:DR} (hm:m<=E.length) (h:DG p num m E R):PG p m R.1 R.2.1:=⟨Z1z hm h.1.len,h.2.1,h.2.2⟩
theorem DG.trans {R S:DR} (h:DG p num m E R) (k:DG p num m R.1 S):DG p num m E S:=⟨h.1.trans k.1,k.2⟩
theorem PG.add (h:PG p m E fs) (hA:AddOK p num E i sc E' q):PG p m E' fs:=by
 have:=hA.len;exact⟨by have:=h.1;omega,hA.bit h.2.1,λd hd=>(h.2.2 d hd).mono aa⟩
theorem IC {a b:Int} (h:iY a b=false):1<=a/\a<=8:=by
 unfold iY at h;simp at h;omega
theorem BS {s:Nat} {R:List Ent×List Int×Int×Int} (h:PG p m E fs) (hR:ElG p num m E [] 0 s R) (hs:s<=2048) (hi:i+3<p.length) (hwd:(p.getD i dN).op≠16->1<=ai p (i+3)/\ai p (i+3)<=8):
 DG p num m E (ii i sc fs R):=by
 obtain⟨g1,g2,g3,g4,g5,g6⟩:=hR;have hl:=g1.len;simp only[Z0e,Z0c] at g4;refine⟨g1,g2,λd hd=>?_⟩;unfold ii sf at hd;simp only at hd
 have old:∀ d∈fs,FdOK p m R.1.length d:=λd hd=>(h.2.2 d hd).mono hl
 split at hd
 ·rcases Z0w.1 hd with hd|hd
  ·exact old d hd
  ·have:=Z0m.1 hd
   subst this;exact⟨⟨i,rfl,hi,hwd⟩,CD sc,g3,by simp only;omega,g5,by simp only;omega⟩
 ·exact old d hd
theorem lY (H:PrO p):∀ (N:Nat) (t:Fo) (i:Nat) (sc:Pth) (E:List Ent) (fs:List Fd),t.size<=N->t.At p i->t.V (List.replicate t.cnt (false,68))->PG p m E fs->DG p num m E (aS p num false t i sc E fs)
 |_,.nil,i,sc,E,fs,_,_,_,h=>by rw[aS];exact DG.refl h
 |0,.cons x k n,_,_,_,_,hN,_,_,_=>by simp only[Fo.size] at hN;omega
 |N+1,.cons x k n,i,sc,E,fs,hN,ha,hv,h=>by
  simp only[Fo.size] at hN;have hp:=H.hp;have hi:=At.lt ha;have hx:=At.get ha;have hsz:=At.size_le (Z1k hi) ha;simp only[Fo.size] at hsz;have hkV:=hv.2.1;have hkA:=ha.2.2.1;obtain⟨hi1,_⟩:=lX (.inl rfl) ha hv
  have one:DG p num m E (aS p num false (.cons x k .nil) i sc E fs):=by
   rw[si];unfold fV;by_cases h10:x.op=10
   ·rw[if_pos h10]
    rw[h10,uo] at hkV;obtain⟨bl,hz,hbl⟩:=aR [110] k rfl hkV;obtain⟨hb1,hb2⟩:=hbl p (i+1) hkA;split
    ·exact DG.refl h
    ·split
     ·exact DG.refl h
     ·show DG p num m E (aS p num true k (i+1) _ E fs)
      rw[dY (p:=p) (num:=num) [110] k rfl hkV];simp only[Z0n] at hz;exact lY H N (ak k) _ _ E fs aa hb1.2.2.1 hb2.2.1 h
   rw[if_neg h10];by_cases h16:x.op=16
   ·rw[if_pos h16]
    have hop:(p.getD i dN).op=16:=by rw[hx];exact h16
    rw[h16,uq] at hkV;obtain⟨bl,hz,hbl⟩:=aR [110,105,105] k rfl hkV;obtain⟨hb1,hb2⟩:=hbl p (i+1) hkA;simp only[Z04,Z0e] at hz;rw[show i+1+([110,105,105]:List Int).length=i+4 from rfl] at hb1
    exact BS h (se H sc _ _ (ak k) (i+4+1) E [] 0 hb1.2.2.1 hb2.2.1 h.1 h.2.1 (Z2l _) aa (λu hu=>by cases hu)) aa ((H.hN i hi).2.2.1 (.inr hop)) λe=>absurd hop e
   rw[if_neg h16];by_cases h17:x.op=17
   ·rw[if_pos h17]
    have hop:(p.getD i dN).op=17:=by rw[hx];exact h17
    rw[h17,ui] at hkV;obtain⟨bl,hz,hbl⟩:=aR [110,110,105,105] k rfl hkV;obtain⟨hb1,hb2⟩:=hbl p (i+1) hkA;simp only[Z04,Z0e] at hz;rw[show i+1+([110,110,105,105]:List Int).length=i+5 from rfl] at hb1;have hi4:=(H.hN i hi).2.1 (.inr (.inr hop))
    refine BS h (se H sc _ _ (ak k) (i+5+1) E [] 0 hb1.2.2.1 hb2.2.1 h.1 h.2.1 (Z2l _) aa (λu hu=>by cases hu)) aa aa λ_=>?_
    have ho:=H.hO i hi;unfold aK at ho;rw[hop] at ho;simp at ho;exact IC ho
   rw[if_neg h17];have hao:=nu 0 [] num p H.hp H.hw E i hi1 sc;generalize bt p num E i sc=A at hao |-;obtain⟨E2,id,q,e⟩:=A;simp only at hao |-
   rcases hao with ⟨rfl,he⟩|⟨rfl,rfl,hA⟩
   ·rw[if_pos he];exact DG.refl h
   ·rw[if_neg an]
    have h2:=h.add hA
    have hs:DG p num m E (E2,fs,0):=⟨hA.gro hi1,h2.2.1,h2.2.2⟩
    split
    ·rename_i hb
     rcases hb with hb|hb
     ·rw[hb,um] at hkV
      obtain⟨bl,hz,hbl⟩:=aR [115] k rfl hkV;obtain⟨hb1,hb2⟩:=hbl p (i+1) hkA;show DG p num m E (aS p num true k (i+1) _ E2 fs);rw[dY (p:=p) (num:=num) [115] k rfl hkV];simp only[Z0n] at hz;exact hs.trans (lY H N (ak k) _ _ E2 fs aa hb1.2.2.1 hb2.2.1 h2)
     ·rw[hb,ul] at hkV
      obtain⟨bl,hz,hbl⟩:=aR [115,105,105] k rfl hkV;obtain⟨hb1,hb2⟩:=hbl p (i+1) hkA;show DG p num m E (aS p num true k (i+1) _ E2 fs);rw[dY (p:=p) (num:=num) [115,105,105] k rfl hkV];simp only[Z04,Z0e] at hz;exact hs.trans (lY H N (ak k) _ _ E2 fs aa hb1.2.2.1 hb2.2.1 h2)
    ·exact hs
  rw[uZ];split
  ·exact one.trans (lY H N n _ sc _ _ aa ha.2.2.2 hv.2.2 (one.pg h.1))
  ·exact one
end
end
section
variable {E:List Ent} {k:Nat}
def RegE (T:List Tb) (E:List Ent):Prop:=∀ k,k<E.length->(E.getD k eZ).op=15->RegAt T (E.getD k eZ) (bT T (E.getD k eZ) 2) (bT T (E.getD k eZ) 3) (bT T (E.getD k eZ) 4)
def kw (p:List Nd) (T:List Tb):List Fd->List Ent->List Int->List Ent×List Int×Int
 |[],E,rs=>(E,rs,0)
 |d::fs,E,rs=>if (gX p T d d.node.toNat E rs).2.2=0 then kw p T fs (gX p T d d.node.toNat E rs).1 (gX p T d d.node.toNat E rs).2.1 else gX p T d d.node.toNat E rs
section
variable {p:List Nd} {num:Int} {m:Nat} {T:List Tb}
theorem iQ {α:Type} {l:List α} {y d:α} (h:k<l.length):(l++[y]).getD k d=l.getD k d:=by
 rw[Z00,Z0x h,<-Z00]
theorem kV {α:Type} {l:List α} {y d:α} {j:Nat} (h:j<l.length):(l.set j y).getD k d=if j=k then y else l.getD k d:=by
 rw[Z00,Z1i];by_cases e:j=k
 ·subst e;simp[h]
 ·simp[e,Z00]
theorem vD (sp ba ln idx dat:Int):∀ (us:List Int) (E:List Ent),(∀ u∈us,(m:Int)<=u/\u<E.length)->BitO E->Gro p num m E (eX sp ba ln idx dat us E).1/\BitO (eX sp ba ln idx dat us E).1/\(eX sp ba ln idx dat us E).1.length=E.length
 |[],E,_,hb=>⟨.refl _,hb,rfl⟩
 |u::us,E,hu,hb=>by
  have h:=hu u an;rw[eX];split
  ·obtain⟨g1,g2,g3⟩:=vD sp ba ln idx dat us (E.set u.toNat (vJ (E.getD u.toNat eZ) sp ba ln idx dat)) (λv hv=>by rw[Z18];exact hu v (by simp[hv])) (hb.set (y:=vJ (E.getD u.toNat eZ) sp ba ln idx dat) (hb u.toNat) _)
   exact⟨.spec (y:=vJ (E.getD u.toNat eZ) sp ba ln idx dat) aa aa ⟨rfl,rfl,rfl,rfl,rfl⟩ g1,g2,by rw[g3,Z18]⟩
  ·exact⟨.refl _,hb,rfl⟩
def RefG (N:Nat) (rs:List Int):Prop:=∀ r∈rs,0<=r/\r<(N:Int)
theorem RefG.app {N:Nat} {a b:List Int} (h:RefG N a) (k:RefG N b):RefG N (a++b):=λr hr=>by
 rcases Z0w.1 hr with e|e
 ·exact h r e
 ·exact k r e
theorem RefG.one {N:Nat} (h:k<N):RefG N [(k:Int)]:=λr hr=>by have:=Z0m.1 hr;omega
theorem RefG.nat {s:By} {i:Nat} {op:Int} {r:Option Nat} (h:fi p E s i op=r):RefG E.length (ot r):=by
 cases r with
 |none=>intro x hx;cases hx
 |some k=>exact RefG.one (lP h).1
theorem B0 (r:Option Nat):(ot r).length<=1:=by cases r<;>simp[ot]
theorem Bp {d:Fd} {i:Nat} {rs:List Int} (hd:FdOK p m E.length d) (hb:BitO E) (hr:RefG E.length rs):
 (Gro p num m E (gX p T d i E rs).1/\BitO (gX p T d i E rs).1)/\(gX p T d i E rs).1.length=E.length/\RefG E.length (gX p T d i E rs).2.1/\(gX p T d i E rs).2.1.length<=rs.length+2:=by
 unfold gX;split
 ·cases h1:fi p E d.scope (i+1) 15 with
  |none=>exact⟨⟨.refl _,hb⟩,rfl,hr,Z1o _ _⟩
  |some k=>
   obtain⟨g1,g2,g3⟩:=vD (p:=p) (num:=num) (bT T (E.getD k eZ) 2) (bT T (E.getD k eZ) 3) (bT T (E.getD k eZ) 4) (-1) (-1) d.units E hd.units hb;exact⟨⟨g1,g2⟩,g3,hr.app (RefG.one (lP h1).1),an⟩
 ·cases h1:fi p E d.scope (i+1) 18 with
  |none=>
   refine⟨⟨.refl _,hb⟩,rfl,(hr.app (RefG.nat h1)).app (RefG.nat (r:=fi p E d.scope (i+2) 18) rfl),?_⟩;have:=B0 (fi p E d.scope (i+2) 18);have h0:(ot (none:Option Nat)).length=0:=rfl;simp only[Z03];omega
  |some a=>
   cases h2:fi p E d.scope (i+2) 18 with
   |none=>exact⟨⟨.refl _,hb⟩,rfl,(hr.app (RefG.one (lP h1).1)).app (RefG.nat h2),by simp[ot]⟩
   |some c=>
    obtain⟨g1,g2,g3⟩:=vD (p:=p) (num:=num) 0 0 ((d.bits+8*ai p (i+3)-1).tdiv (8*ai p (i+3))*ai p (i+3)) a c d.units E hd.units hb;exact⟨⟨g1,g2⟩,g3,(hr.app (RefG.one (lP h1).1)).app (RefG.one (lP h2).1),an⟩
theorem Bd:∀ (fs:List Fd) (E:List Ent) (rs:List Int),(∀ d∈fs,FdOK p m E.length d)->BitO E->RefG E.length rs->
 Gro p num m E (kw p T fs E rs).1/\BitO (kw p T fs E rs).1/\(kw p T fs E rs).1.length=E.length/\RefG E.length (kw p T fs E rs).2.1
 |[],E,rs,_,hb,hr=>⟨.refl _,hb,rfl,hr⟩
 |d::fs,E,rs,hd,hb,hr=>by
  obtain⟨⟨g1,g2⟩,g3,g4,_⟩:=Bp (p:=p) (num:=num) (T:=T) (i:=d.node.toNat) (hd d an) hb hr;rw[kw];split
  ·obtain⟨k1,k0,k2,k3⟩:=Bd fs _ _ (λx hx=>by rw[g3];exact hd x (by simp[hx])) g2 (by rw[g3];exact g4)
   rw[g3] at k2 k3;exact⟨g1.trans k1,k0,k2,k3⟩
  ·exact⟨g1,g2,g3,g4⟩
theorem Hx {a b c:Int} (h:im a b c=false):a<=3/\b<=9223372036854775808/\c<=1048576:=by
 unfold im at h;simp at h;omega
theorem RegAt.same {x y:Ent} (h1:x.tab=y.tab) (h2:x.node=y.node) {a b c:Int} (h:RegAt T y a b c):RegAt T x a b c:=by
 obtain⟨⟨j,nd,e1,e2,e3,r⟩,s⟩:=h;exact⟨⟨j,nd,by rw[h1];exact e1,e2,by rw[h2];exact e3,r⟩,‹_›,‹_›,‹_›,‹_›,‹_›,‹_›⟩
theorem lD {x y:Ent} (h1:x.tab=y.tab) (h2:x.node=y.node) (o:Nat):bT T x o=bT T y o:=by unfold bT;rw[h1,h2]
theorem RegE.gro (H:PrO p) (hT:∃ j:Nat,num=1+(j:Int)/\j<T.length/\(T.getD j tZ).p=p) {E':List Ent} (h:Gro p num m E E') (hE:RegE T E):RegE T E':=by
 induction h with
 |refl=>exact hE
 | @add E0 E1 E2 i sc q hi h _ ih=>
   refine ih ?_;obtain⟨ab,c,_,_,rfl⟩:=h.up;intro k hk ho
   rcases Z0a k E0.length with e|e
   ·rw[iQ e] at ho |-
    exact hE k e ho
   ·obtain rfl:k=E0.length:=by simp at hk;omega
    have hg:(E0++[dH (aI q) (p.getD i dN).op c num i]).getD E0.length eZ=dH (aI q) (p.getD i dN).op c num i:=an;rw[hg] at ho |-;have ho:(p.getD i dN).op=15:=ho;obtain⟨j,e1,e2,e3⟩:=hT;have hil:i<p.length:=aa;have hn:=(H.hN i hil).2.1 (.inr (.inl ho));have hr:=H.hO i hil;unfold aK at hr;rw[ho] at hr
    have h0:∀ j,0<=(p.getD j dN).int:=λj=>ca H.hI j
    have hreg:∀ o,bT T (dH (aI q) 15 c num i) o=(p.getD (i+o) dN).int:=λo=>by
     unfold bT;show ((T.getD (num-1).toNat tZ).p.getD (((i:Nat):Int).toNat+o) dN).int=_;rw[show (num-1).toNat=j by omega,e3];rfl
    rw[ho,hreg,hreg,hreg];have hp:=H.hp;have k2:=h0 (i+2);have k3:=h0 (i+3);have k4:=h0 (i+4);simp at hr;obtain⟨r1,r2,r3⟩:=Hx hr;unfold ai at r1 r2 r3;exact⟨⟨j,i,e1,e2,rfl,⟨by rw[e3];exact hn,aa⟩,by rw[e3],by rw[e3],by rw[e3]⟩,k2,aa,k3,aa,k4,aa⟩
 | @spec E0 E2 j y hm hj hs _ ih=>
   refine ih ?_;intro k hk ho;rw[Z18] at hk;rw[kV hj] at ho |-;split at ho
   ·rename_i e
    subst e;rw[if_pos rfl];rw[lD hs.2.2.2.1 hs.2.2.2.2,lD hs.2.2.2.1 hs.2.2.2.2,lD hs.2.2.2.1 hs.2.2.2.2];exact RegAt.same hs.2.2.2.1 hs.2.2.2.2 (hE j hj (by rw[<-hs.2.1];exact ho))
   ·rename_i e
    rw[if_neg e];exact hE k hk ho
theorem RegE.tab (T':List Tb) (hl:T.length<=T'.length) (hT:∀ j,j<T.length->(T'.getD j tZ).p=(T.getD j tZ).p) (hE:RegE T E):RegE T' E:=by
 intro k hk ho;obtain⟨⟨j,nd,e1,e2,e3,⟨e4,e4'⟩,e5,e6,e7⟩,s0,s1,b0,b1,l0,l1⟩:=hE k hk ho
 have hreg:∀ o,bT T' (E.getD k eZ) o=bT T (E.getD k eZ) o:=λo=>by
  unfold bT;rw[e1,show ((1:Int)+(j:Int)-1).toNat=j by omega,hT j e2]
 rw[hreg,hreg,hreg];refine⟨⟨j,nd,e1,aa,e3,⟨by rw[hT j e2];exact e4,e4'⟩,?_,?_,?_⟩,s0,s1,b0,b1,l0,l1⟩
 ·rw[hT j e2];exact e5
 ·rw[hT j e2];exact e6
 ·rw[hT j e2];exact e7
end
end
abbrev GH (l:List Nat):List S:=l.map λ(j:Nat)=>S.int .i64 (j:Int)
abbrev ntB (l:List Nat):Bl:={cells:=GH l,ty:=3,sym:=true,flat:=true}
theorem BU (l:List Nat) {n:Nat} (h:n<l.length):(GH l)[n]? =some (.int .i64 ((l.getD n 0:Nat):Int)):=by
 rw[Z0t,Z01 h,Z00,Z01 h];rfl
theorem HP (n:Nat):GH (List.replicate n 0)=List.replicate n (.int .i64 0):=by simp[GH]
theorem CR (p:List Nd) (hp:p.length<=2048) (h0:0<p.length) (t:Fo) {cs:List (Bool×Int)} (ha:t.At p 0) (hv:t.V cs) (hs:t.size=p.length):
 FC Tryz.prog 68 [al p] 0 [] (.s (.frz (λk=>[.int .i64 (((bZ t).getD k 0:Nat):Int)]) 1 (bZ t).length)) 0 []:=by
 have hsz:(Tryz.prog.types[3]).size=1:=by kernel_rfl
 have hby:(Tryz.prog.types[3]).bytes=8:=by kernel_rfl
 have hel:(bZ t).length=p.length:=by rw[bZ,Z0z,Z2e,hs]
 refine wW Tryz.func68 ?_
 repeat'(first|exact y0|refine y1 ?_|refine y2 ?_ ?_|refine y4 λh=>?_|refine y3 ?_|exact y5|fail)
 refine RegX.opA [.idx p.length,.idx p.length] rfl rfl ⟨rfl,rfl,Z02 _,?_,aa⟩ ?_
 ·rw[hby];omega
 repeat'(first|exact y0|refine y1 ?_|refine y2 ?_ ?_|refine y4 λh=>?_|refine y3 ?_|exact y5|fail)
 refine Ex.inv (σ:=Nat) (λi=>[(4,.s (.int .i64 ((i:Int)-1)))]) (λi=>[(0,some (ntB (fO t i)))]) (λi=>i<=p.length) (λi=>i) p.length rfl (λ_=>rfl) (Z02 _) aV ⟨by rw[<-hs,CW,hs,ntB,HP];rfl,trivial⟩ ?_;intro i hi
 cases i with
 |zero=>
  repeat'(first|exact y0|refine y1 ?_|refine y2 ?_ ?_|refine y4 λh=>?_|refine Ex.fz 2 (λk=>[.int .i64 (((bZ t).getD k 0:Nat):Int)]) 1 rfl rfl rfl rfl (λ_ _=>rfl) ?_ rfl rfl ?_|refine Fin.le (.inl rfl) rfl (VLe.of_eq (by show _=V.s (.frz _ 1 (bZ t).length);rw[hel];rfl)) rfl|refine y3 ?_|exact y5|fail)
  intro k j x hk hx
  cases j with
  |succ j=>simp at hx
  |zero=>
   simp only[Z11,Z06] at hx;subst hx;rw[z6];refine⟨?_,rfl⟩;rw[Z1p,Z0p];exact BU _ (by rw[bZ,Z0z,Z2e,hs];exact hk)
 |succ i=>
  refine Ex.set 4 (nI i) (VLe.of_eq (congrArg nI (by push_cast;omega))) rfl ?_;obtain⟨sl,k1,k2⟩:=cC (i:=i) ha hv (Z08 i) aa
  have hkid:(p.getD i dN).kids=(((t.kid 0 i).starts (i+1)).length:Nat):=by rw[bp];exact k1.2.1
  have hch:=At.chain k1.2.2.1
  have hcn:((t.kid 0 i).starts (i+1)).length<=2048:=by
   rw[bp];have h1:=Fo.cnt_le (t.kid 0 i);have h2:=At.size_le (Z1k (At.lt k1)) k1;simp only[Fo.size] at h2;omega
  have hul:=CU t (i+1);generalize hcs:(t.kid 0 i).starts (i+1)=st at*
  repeat'(first|exact y0|refine y1 ?_|refine y2 ?_ ?_|refine y4 λh=>?_|refine y3 ?_|exact y5|fail)
  all_goals try omega
  rw[hkid];refine Ex.inv (σ:=List Nat×Nat×Nat) (λq=>[(5,nI q.2.1),(23,nI q.2.2)]) (λq=>[(0,some (ntB (fO t (i+1))))]) (λq=>Chain p (i+1+(t.kid 0 i).size) q.2.1 q.1/\q.2.2+q.1.length=st.length/\i+1<=q.2.1) (λq=>q.1.length) (st,i+1,0) rfl (λ_=>rfl) ⟨hch,by simp only;omega,Z02 _⟩ aV ⟨rfl,trivial⟩ ?_;rintro⟨rest,cur,c⟩ ⟨c1,c2,c3⟩;simp only at c1 c2 c3 |-
  cases c1 with
  |nil=>
   simp only[Z0e] at c2;have e6:=CT (t:=t) (i:=i) aa
   repeat'(first|exact y0|refine y1 ?_|refine y2 ?_ ?_|refine y4 λh=>?_|refine RegX.sto [.cells (GH (fO t i))] rfl rfl ⟨?_,?_⟩ rfl ?_|refine y3 ?_|exact y5|fail)
   all_goals try first
    |omega
    |(show bJ 0 (bG i (Tryz.prog.types[3]).size)+1<=(GH (fO t (i+1))).length;rw[hsz,am,aB,Z0z,hul];omega)
    |(show _=(GH (fO t (i+1))).set (bJ 0 (bG i (Tryz.prog.types[3]).size)) _;rw[hsz,am,aB,Z0c,Z1p,<-e6];exact Z4l)
   exact LoopR.same i aa aa rfl aV ⟨rfl,trivial⟩ rfl rfl ac
  | @cons _ e l he r=>
    simp only[Z04] at c2
    have hlt:cur<p.length:=by cases he with|step h _ _ _=>exact h
    obtain⟨sl2,m1,m2⟩:=cC (i:=cur) ha hv (Z08 cur) aa
    have hee:(fO t (i+1)).getD cur 0=e:=by rw[CV aa c3];exact (At.ends1 m1).uniq he
    have hle:=he.le.1
    repeat'(first|exact y0|refine y1 ?_|refine y2 ?_ ?_|refine y4 λh=>?_|refine RegX.ldS [.val (nI ((fO t (i+1)).getD cur 0:Nat))] rfl rfl ?_ rfl ?_|refine y3 ?_|exact y5|fail)
    all_goals try first
     |omega
     |(show (match (GH (fO t (i+1)))[bJ 0 (bG cur (Tryz.prog.types[3]).size)]? with|some x=>some (V.s x)|none=>none)=_;rw[hsz,am,aB,Z0c,Z1p,BU _ aa])
    rw[hee];exact LoopR.same (l,e,c+1) ⟨r,by simp only;omega,by simp only;omega⟩ an rfl aV ⟨rfl,trivial⟩ rfl rfl ac
theorem CQ:FC Tryz.prog 68 [al []] 0 [] (.s (.frz (λk=>[.int .i64 (((bZ Fo.nil).getD k 0:Nat):Int)]) 1 (bZ Fo.nil).length)) 0 []:=by
 refine wW Tryz.func68 ?_
 repeat'(first|exact y0|refine y1 ?_|refine y2 ?_ ?_|refine y4 λh=>?_|refine y3 ?_|exact y5|fail)
 refine RegX.opA [.idx 0,.idx 0] rfl rfl ⟨rfl,rfl,Z02 _,ac,ac⟩ ?_
 repeat'(first|exact y0|refine y1 ?_|refine y2 ?_ ?_|refine y4 λh=>?_|refine y3 ?_|exact y5|fail)
 refine Ex.inv (σ:=Unit) (λi=>[(4,.s (.int .i64 (-1)))]) (λi=>[(0,some (ntB []))]) (λi=>True) (λi=>0) () rfl (λ_=>rfl) trivial aV ⟨rfl,trivial⟩ ?_;intro i hi
 repeat'(first|exact y0|refine y1 ?_|refine y2 ?_ ?_|refine y4 λh=>?_|refine Ex.fz 2 (λk=>[.int .i64 (((bZ Fo.nil).getD k 0:Nat):Int)]) 1 rfl rfl rfl rfl (λ_ _=>rfl) ?_ rfl rfl ?_|refine Fin.le (.inl rfl) rfl (VLe.refl _) rfl|refine y3 ?_|exact y5|fail)
theorem Aj:SC Tryz.prog 67 [.s (.slc none 0 (some 0))] 0 [] (al []) 0 []:=by
 refine (FC.walk (v:=al []) (by kernel_rfl) Tryz.func67 rfl rfl ?_).2
 repeat'(first|exact y0|refine y1 ?_|refine y2 ?_ ?_|refine y4 λh=>?_|refine BrG.tt ?_|refine Fin.le (.inl rfl) rfl ?_ rfl|refine y3 ?_|exact y5|fail)
 exact VLe.s SLe.nil
theorem Ai:SC Tryz.prog 67 [.s .emq] 0 [] (al []) 0 []:=by
 refine (FC.walk (v:=al []) (by kernel_rfl) Tryz.func67 rfl rfl ?_).2
 repeat'(first|exact y0|refine y1 ?_|refine y2 ?_ ?_|refine y4 λh=>?_|refine RegX.atCmp (CmpG.nn false trivial rfl (.inl ⟨rfl,rfl⟩) rfl rfl ?_)|refine y3 ?_|exact y5|fail)
 refine RegX.opA [.app 0 []] rfl rfl ⟨rfl,rfl,rfl,rfl,rfl,rfl,(λh=>nomatch h),by rw[Z24];decide,ac⟩ ?_
 repeat'(first|exact y0|refine y1 ?_|refine y2 ?_ ?_|refine y4 λh=>?_|refine Ex.set 2 (al []) (VLe.s (λφ x h=>SLe.emqfrz φ x (SLe.slaemq φ x h))) rfl ?_|refine Fin.le (.inl rfl) rfl (VLe.refl _) rfl|refine y3 ?_|exact y5|fail)
theorem Do (p:List Nd) (hp:p.length<=2000000000):FC Tryz.prog 67 [al p] 0 [] (al p) 0 []:=by
 cases p with
 |nil=>exact⟨by kernel_rfl,SC.split2 (pre:=[]) (post:=[]) (λφ x h=>oM h) Aj Ai⟩
 |cons s t=>
  have hnp:((s::t).flatMap ndC).all bM=true:=rG {cells:=[],ty:=0,flat:=true} (s::t);refine wW Tryz.func67 ?_
  repeat'(first|exact y0|refine y1 ?_|refine y2 ?_ ?_|refine y4 λh=>?_|refine RegX.atCmp (CmpG.nn false (Z1n _) rfl (.inl ⟨rfl,rfl⟩) rfl rfl ?_)|refine y3 ?_|exact y5|fail)
  refine RegX.opA [.app (s::t).length ((s::t).flatMap ndC)] rfl rfl ⟨rfl,trivial,rfl,by rw[Z0c],?_,?_,(λh=>nomatch h),?_,aa⟩ ?_
  ·rw[fg,Z24];rfl
  ·rw[fg];exact rG _ _
  ·rw[show (Tryz.prog.types[49]).bytes=40 by kernel_rfl];omega
  repeat'(first|exact y0|refine y1 ?_|refine y2 ?_ ?_|refine y4 λh=>?_|refine Ex.fz 2 (λk=>ndC ((s::t).getD k dN)) 4 rfl rfl rfl rfl (λ_ _=>rfl) ?_ rfl rfl ?_|refine Fin.le (.inl rfl) rfl (VLe.refl _) rfl|refine y3 ?_|exact y5|fail)
  intro k j x hk hx;have h:=cF ndC 4 dN (λ_=>rfl) hk hx;refine⟨h,?_⟩
  rcases j with _|_|_|_|j
  ·cases hx;rfl
  ·cases hx;rfl
  ·cases hx;rfl
  ·cases hx;rfl
  ·simp[ndC] at hx
section
variable {G:Dgs}
def C6 (E:Dgs):Prop:=∀ d∈E,d.2=6
theorem Bm {p:List Nd} {t:Fo} (hp:p.length<=2048) (ha:t.At p 0) (hv:t.V (List.replicate t.cnt (false,68))) (hs:t.size=p.length):(d_ (kx p (anS p t).F (anS p t).S t p.length 0 (anS p t).G)).length<=1000000000:=by
 rw[fD]
 have key:∀ (l:List Nat),l.length<=2048->(∀ i∈l,i<p.length)->(l.flatMap (gE p (anS p t).F (anS p t).S t)).length<=l.length*6145:=by
  intro l
  induction l with
  |nil=>intro _ _;simp
  |cons i l ih=>
   intro h1 h2;rw[Z0g,Z03,Z04];have:=ih (by simp only[Z04] at h1;omega) (λj hj=>h2 j (Z0y _ hj));have hi:=h2 i (Z17 ..);obtain⟨sl,g1,g2⟩:=cC ha hv (Z08 i) (aa:i<0+t.size);have hn:=lF hp (F:=(anS p t).F) (sc:=(anS p t).S.getD i z0) (G:=[]) g1 g2
   have he:(gE p (anS p t).F (anS p t).S t i).length<=6145:=by
    unfold gE;rw[Z03]
    have:(if aK p i then [(i,4)] else []:Dgs).length<=1:=by split<;>simp
    simp only[Z0e] at hn;omega
   rw[Z2q];omega
 rw[iD,Z03];have h1:=(cX false t 0 ⟨true,0,[]⟩ (sU p)).2.2;rw[show (sU p).G.length=0 from rfl] at h1;have h2:=key (List.range' 0 p.length) (by simp;omega) (λi hi=>by have:=Z20.1 hi;omega);simp only[Z5e] at h2;have h3:p.length*6145<=2048*6145:=Z1w _ hp;have h4:(anS p t).G.length<=0+t.size:=h1;omega
theorem Dw (h:C6 (d_ G)):C6 G:=λd hd=>h d (by unfold d_;exact (Z57 ..).mem_iff.2 hd)
theorem JT {k:Nat} (hk:k<G.length):G.getD k (0,0)∈G:=by
 rw[Z00,Z01 hk];exact Z0s hk
theorem Dx {p:List Nd} {F:List (By×Nat)} {T:List Pth} {t:Fo} (h:C6 (kx p F T t p.length 0 G)) (j:Nat) (hj:j<p.length):aK p j=false:=by
 rw[iD] at h
 have this:C6 (if aK p j then [(j,4)] else []):=λd hd=>h d (Z47 _ (Z2h.2 ⟨j,by simp[hj],Z3c _ hd⟩))
 cases e:aK p j with
 |false=>rfl
 |true=>
  rw[e,if_pos rfl] at this;have:=this (j,4) (Z0m.2 rfl);cases this
end
theorem Fx (w:World) (o:Obj):(w.alloc o).heap[w.heap.size]? =some o:=by
 show (w.heap.push o)[w.heap.size]? =some o;simp
theorem B8 {κ α:Type} (K:KD κ) (agg:Bool) (sz:Nat) (c:α->List S) (hw:∀ a,(c a).length=sz) (E:En κ α) (ck:Nat) (f:FuncId) (hcl:∀ (b:Nat) (es:Array MapEntry) (clock:Nat) (w:World),w.heap[b]? =some (.map es clock)->Calls Tryz.prog f #[.map (some b)] w λe w'=>e=.returned (.map (some w.heap.size))/\w'=w.alloc (.map es clock)):
 SC Tryz.prog f [.s (.map (some 0))] 1 [(0,some (mB K agg sz c E ck))] (.s (.map (some 1))) 2 [(0,some (mB K agg sz c E ck)),(1,some (mB K agg sz c E ck))]:=by
 refine SC.fresh (L:=[(0,some (mB K agg sz c E ck))]) (mB K agg sz c E ck) (λj hj=>?_) (Z02 _) λφ xs w ha hg=>?_
 ·rw[bd,if_neg aa];rfl
 ·match xs,ha with
  |[x],⟨hx,_⟩=>
   obtain⟨b,hb,hb2,rfl⟩:=hx;obtain⟨b',hb',hat⟩:=hg.hr 0 _ rfl;rw[hb] at hb';cases hb';obtain⟨M,hm,hM⟩:=uc (r:=false) hw hat hb2;refine Z4d (hcl b.1 _ _ w hm) ?_;rintro e w' ⟨rfl,rfl⟩;refine⟨w.heap.size,λi=>if i=1 then some (w.heap.size,0) else none,_,rfl,(RowKit.Below.refl _ w).alloc (Z02 _) _,Z02 _,rfl,λi hi=>if_neg aa,λφ' hle hc=>⟨⟨(w.heap.size,0),hc 1 (Z02 _),rfl,rfl⟩,?_⟩⟩;exact yK hw (Fx w _) (EntsR.mono (φ:=fl φ) (φ':=fl φ') ⟨λ_ _ h=>(by cases h),λ_ _ h=>hle.z _ _ h⟩ hM) rfl
theorem JR (E:List Ent):FC Tryz.prog 123 [.s (.map (some 0))] 1 [(0,some (oB E))] (.s (.map (some 1))) 2 [(0,some (oB E)),(1,some (oB E))]:=
 ⟨by kernel_rfl,B8 rM true 14 io fN _ _ _ λb es clock w hb=>AnyW.maps_Clone Tryz.cloneA b es clock w hb⟩
theorem JQ (E:List Ent):FC Tryz.prog 124 [.s (.map (some 0))] 1 [(0,some (pB E))] (.s (.map (some 1))) 2 [(0,some (pB E)),(1,some (pB E))]:=
 ⟨by kernel_rfl,B8 IT false 1 iC (λ_=>rfl) _ _ _ λb es clock w hb=>AnyW.maps_Clone Tryz.cloneB b es clock w hb⟩
theorem JP (T:List Tb):FC Tryz.prog 125 [.s (.map (some 0))] 1 [(0,some (tB T))] (.s (.map (some 1))) 2 [(0,some (tB T)),(1,some (tB T))]:=
 ⟨by kernel_rfl,B8 rM true 2 lu gA _ _ _ λb es clock w hb=>AnyW.maps_Clone Tryz.cloneC b es clock w hb⟩
abbrev ik (o p t:Nat) (nx nt:Int):Bl:={cells:=[.map (some o),.map (some p),.map (some t),.int .i64 nx,.int .i64 nt],ty:=80}
theorem Ah (E:List Ent) (T:List Tb) (nx nt:Int):FC Tryz.prog 66 [.s (.ptr (some (0,0)))] 4 [(0,some {ik 1 2 3 nx nt with ro:=true}),(1,some (oB E)),(2,some (pB E)),(3,some (tB T))] (.agg [.map (some 4),.map (some 5),.map (some 6),.int .i64 nx,.int .i64 nt]) 7 [(0,some {ik 1 2 3 nx nt with ro:=true}),(1,some (oB E)),(2,some (pB E)),(3,some (tB T)),(4,some (oB E)),(5,some (pB E)),(6,some (tB T))]:=by
 have h1:=JR E;have h2:=JQ E;have h3:=JP T;refine wW Tryz.func66 ?_
 repeat'(first|exact y0|refine y1 ?_|refine y2 ?_ ?_|refine y4 λh=>?_|refine wX 123 (cf [1] h1 ?_)|refine wX 124 (cf [2] h2 ?_)|refine wX 125 (cf [3] h3 ?_)|refine y3 ?_|exact y5|fail)
 exact⟨.inl rfl,_,[5,6,7],VLe.refl _,EndOK.by rfl ⟨rfl,rfl,rfl,rfl,rfl,rfl,rfl,trivial⟩ rfl rfl rfl rfl⟩
abbrev Eb (E:List Ent) (T:List Tb):Hp:=[(0,some (ik 1 2 3 (E.length:Nat) (1+(T.length:Int)))),(1,some (oB E)),(2,some (pB E)),(3,some (tB T))]
abbrev I4 (E:List Ent) (T:List Tb):Hp:=[(0,some (ik 4 5 6 (E.length:Nat) (1+(T.length:Int)))),(1,none),(2,none),(3,none),(4,some (oB E)),(5,some (pB E)),(6,some (tB T))]
theorem Cd (p:List Nd) (G:Dgs) (hG:G.length<=1000000000) (hck:FC Tryz.prog 65 [al p] 0 [] (mP G) 0 []) (h6: ¬C6 G) (E:List Ent) (T:List Tb):
 FC Tryz.prog 25 [.s (.ptr (some (0,0))),al p] 4 (Eb E T) (.tup [.s (.int .i64 0),.s (.int .i64 1)]) 7 (I4 E T):=by
 refine wW Tryz.func25 ?_
 repeat'(first|exact y0|refine y1 ?_|refine y2 ?_ ?_|refine y4 λh=>?_|refine wX 65 (pu hck ?_)|refine y3 ?_|exact y5|fail)
 refine Ex.inv (σ:=Nat) (λi=>[(16,nI (i:Nat))]) (λ_=>Eb E T) (λi=>i<=G.length/\∀ k,k<i->(G.getD k (0,0)).2=6) (λi=>G.length-i) 0 rfl (λ_=>rfl) ⟨Z08 _,λk hk=>absurd hk (Z1m _)⟩ aV ⟨rfl,rfl,rfl,rfl,trivial⟩ ?_;rintro i ⟨hi,hb⟩;by_cases hlt:i<G.length
 ·by_cases hc:(G.getD i (0,0)).2=6
  ·
   have hb':∀ k,k<i+1->(G.getD k (0,0)).2=6:=by
    intro k hk
    rcases Z0a k i with h|h
    ·exact hb k h
    ·rw[show k=i by omega];exact hc
   repeat'(first|exact y0|refine y1 ?_|refine y2 ?_ ?_|refine y4 λh=>?_|refine y3 ?_|exact y5|fail)
   refine LoopR.same (i+1) ⟨hlt,hb'⟩ aa rfl ⟨VLe.of_eq (congrArg nI (by push_cast;omega)),trivial⟩ ⟨rfl,rfl,rfl,rfl,trivial⟩ rfl rfl ac
  ·
   repeat'(first|exact y0|refine y1 ?_|refine y2 ?_ ?_|refine y4 λh=>?_|refine y3 ?_|exact y5|fail)
   exact⟨.inl rfl,_,[1,2,3],VLe.refl _,EndOK.move rfl ⟨rfl,rfl,rfl,rfl,trivial⟩ rfl rfl rfl rfl rfl⟩
 ·exfalso
  refine h6 λd hd=>?_
  obtain⟨k,hk,rfl⟩:=Z2r.1 hd;have:=hb k aa
  rwa [Z00,Z01 hk] at this
section
variable {ops:Array Oper} {d:Bool} {bl:Bl} {L':Hp}
theorem zk (nt num:Int) (p:List Nd) (Eo:List Nat) (H:PrO p) (s:S) (hs:ya s=false) (T:List Tb) (E:List Ent) (rs:List Int) (hrs:rs.length<=50000) (m:Nat) (d:Fd) (hd:FdOK p m E.length d) (hrg:RegE T E) (hbt:BitO E) (R:List Ent×List Int×Int) (hR:gX p T d d.node.toNat E rs=R):
 FC Tryz.prog 70 [.s (.ptr (some (0,0))),.agg (lj d)] 6 (hL nt num p Eo s T E rs) (.s (.int .i64 R.2.2)) 8 (JH nt num p Eo s T R.1 R.2.1):=by
 obtain⟨i,e1,e2,e3⟩:=hd.node
 have hR:gX p T d i E rs=R:=by rw[<-hR,e1];rfl
 have h:=λx=>zo nt num p Eo H.hw H.hI x T E rs hrs d i e2 H.hp e1 hd.scope (λu hu=>by have:=hd.units u hu;omega) hd.len hd.b0 hd.b1 e3 hrg hbt R hR
 exact⟨(h (.int .i64 0)).1,SC.cst (i:=0) (o:=8) (i':=0) (o':=8) (s:=s) rfl rfl rfl rfl hs rfl rfl λy hy=>(h y).2⟩
theorem BP {nt num:Int} {p:List Nd} {Eo:List Nat} {T:List Tb} {E:List Ent} {rs:List Int}:eV 6 (hL nt num p Eo .unk T E rs)=true:=by
 unfold hL jv;generalize List.map _ rs=cg
 cases cg<;>rfl
abbrev IS (a b c:Nat) (nx nt num:Int) (p:List Nd) (Eo:List Nat) (fs rs:S):Bl:={cells:=[.map (some a),.map (some b),.map (some c),.int .i64 nx,.int .i64 nt,.int .i64 num,.frz (λk=>ndC (p.getD k dN)) 4 p.length,.frz (λk=>[.int .i64 ((Eo.getD k 0:Nat):Int)]) 1 Eo.length,fs,rs],ty:=123}
def Ef:Fd:=⟨0,[],[],0⟩
section
variable {P:Program} {b:Nat} {env:List V} {n:Nat} {L:Hp} {R:Post}
theorem Ex.ld13 {ops:Array Oper} {d:Bool} (j i:Nat) (hn:n<=i) (hl:lk L j=some bl) (ho:bl.cells[8]? =some (.slc none 0 (some 0))) {L':Hp} (hL:put L j (some {bl with cells:=bl.cells.set 8 (.row i (i+1) 0)})=L') (k:Ex P b (.region 13 ops d) env (i+2) L' R):Ex P b (.region 13 ops d) env n L R:=
 Ex.cel j 8 hl ho SLe.nilrow hL (Ex.upN aa k)
theorem Ex.cel23 {ops:Array Oper} {d:Bool} (j o:Nat) {s s':S} (hl:lk L j=some bl) (ho:bl.cells[o]? =some s) (hle:SLe s s') {L':Hp} (hL:put L j (some {bl with cells:=bl.cells.set o s'})=L') (k:Ex P b (.region 23 ops d) env n L' R):Ex P b (.region 23 ops d) env n L R:=Ex.cel j o hl ho hle hL k
theorem Ex.fzC23 {ops:Array Oper} {d:Bool} (j o:Nat) (get:Nat->List S) (sz:Nat) {s:S} {i N:Nat} {blj:Bl} (hlj:lk L j=some blj) (hij:i≠j) (hs:blj.cells[o]? =some s) (ht:dF (.s s)=some (i,N)) (hl:lk L i=some bl) (hro:bl.ro=false) (hk:bl.kind=none)
 (hg:∀ k,k<N->(get k).length=sz) (hc:∀ k j x,k<N->(get k)[j]? =some x->bl.cells[k*sz+j]? =some x/\bE x=true)
 {L':Hp} (hL:put (put L i none) j (some {blj with cells:=blj.cells.set o (.frz get sz N)})=L') (k:Ex P b (.region 23 ops d) env n L' R):Ex P b (.region 23 ops d) env n L R:=Ex.fzC j o get sz hlj hij hs ht hl hro hk hg hc hL k
theorem FG (fs:List Fd) {k j:Nat} {x:S} (hk:k<fs.length) (hx:(lj (fs.getD k Ef))[j]? =some x):(fs.flatMap lj)[k*4+j]? =some x/\bE x=true:=by
 refine⟨cF lj 4 Ef (λ_=>rfl) hk hx,?_⟩
 rcases j with _|_|_|_|j
 ·cases hx;rfl
 ·cases hx;rfl
 ·cases hx;rfl
 ·cases hx;rfl
 ·simp[lj] at hx
theorem Ex.frow {c:Code} (t i:Nat) (fs:List Fd) (ht:env.getD t .undef=.s (.row i (i+1) fs.length)) (hl:lk L i=mt i fs) {env':List V} (he:env.set t (.s (.frz (λk=>lj (fs.getD k Ef)) 4 fs.length))=env') (hL:put L i none=L') (k:Ex P b c env' n L' R):Ex P b c env n L R:=by
 cases fs with
 |nil=>
  subst hL;refine Ex.set t _ (by rw[ht];exact VLe.s SLe.row0) he (Ex.subF (λj bl hj=>?_) k);rw[az] at hj;split at hj
  ·cases hj
  ·exact⟨bl,hj,rfl,λ_ _ _ h=>h⟩
 |cons x fs=>
  have hlen:t<env.length:=by
   rcases Z0a t env.length with h|h
   ·exact h
   ·rw[Z00,Z0b h] at ht;cases ht
  refine Ex.set t (.s (.sla i (i+1) (x::fs).length)) (by rw[ht];exact VLe.s (SLe.rowsla (Z1n _))) rfl ?_;refine Ex.fz t (λk=>lj ((x::fs).getD k Ef)) 4 (bl:={cells:=(x::fs).flatMap lj,ty:=129,more:=true,sym:=true,flat:=true,gh:=some (i+1,4)}) (i:=i) (N:=(x::fs).length) ?_ hl rfl rfl (λ_ _=>rfl) (λk j y hk hx=>FG (x::fs) hk hx) ?_ hL k
  ·rw[Z00,Z1i,if_pos rfl,if_pos hlen];rfl
  ·rw[<-he,Z5m]
end
theorem Cc (p:List Nd) (H:PrO p) (G:Dgs) (hG:G.length<=1000000000) (hck:FC Tryz.prog 65 [al p] 0 [] (mP G) 0 []) (h6:C6 G) (t:Fo) (ha:t.At p 0) (hv:t.V (List.replicate t.cnt (false,68))) (hs:t.size=p.length) (hE:EOK p (bZ t)) (hen:FC Tryz.prog 68 [al p] 0 [] (.s (.frz (λk=>[.int .i64 (((bZ t).getD k 0:Nat):Int)]) 1 (bZ t).length)) 0 [])
 (E:List Ent) (T:List Tb) (hT:T.length<=10) (hreg:RegE T E) (hbit:BitO E) (D:DR) (hD:aS p (1+(T.length:Int)) false t 0 ⟨true,0,[]⟩ E []=D) (R:List Ent×List Int×Int) (hR:kw p (T++[⟨p,[]⟩]) D.2.1 D.1 []=R)
 (v:V) (n':Nat) (L':Hp) (hA:D.2.2≠0->v=.tup [.s (.int .i64 0),.s (.int .i64 D.2.2)]/\n'=7/\L'=I4 E T) (hB:D.2.2=0->R.2.2≠0->v=.tup [.s (.int .i64 0),.s (.int .i64 R.2.2)]/\n'=7/\L'=I4 E T)
 (hC:D.2.2=0->R.2.2=0->v=.tup [.s (.int .i64 (1+(T.length:Int))),.s (.int .i64 0)]/\n'=7/\L'=[(0,some (ik 4 5 6 (R.1.length:Nat) (1+(T.length:Int)+1))),(1,none),(2,none),(3,none),(4,some (oB R.1)),(5,some (pB R.1)),(6,some (tB (T++[⟨p,R.2.1⟩])))]):
 FC Tryz.prog 25 [.s (.ptr (some (0,0))),al p] 4 (Eb E T) v n' L':=by
 have hp:=H.hp;have hcl:=Ah E T (E.length:Nat) (1+(T.length:Int));have hcn:=Do p aa;have hdg:=lY (num:=1+(T.length:Int)) (m:=E.length) H t.size t 0 ⟨true,0,[]⟩ E [] (Z02 _) ha hv ⟨Z02 _,hbit,λd hd=>by cases hd⟩;have hdl:=gL (p:=p) (num:=1+(T.length:Int)) false t 0 ⟨true,0,[]⟩ E [];have hdc:=C8 (1+(T.length:Int)+1) (1+(T.length:Int)) p (bZ t) hp hE t.size (u9 (1+(T.length:Int)+1) (1+(T.length:Int)) p (bZ t) hp H.hw H.hI H.hO H.hN hE t.size) t 0 ⟨true,0,[]⟩ E [] (Z02 _) ha hv rfl (by simp only[Z0e];omega);rw[hD] at hdg hdl hdc;obtain⟨E1,fs,e⟩:=D;simp only at hdg hdl hdc hR hA hB hC;have hel:=hE.len
 have hTn:∃ j:Nat,1+(T.length:Int)=1+(j:Int)/\j<(T++[(⟨p,[]⟩:Tb)]).length/\((T++[(⟨p,[]⟩:Tb)]).getD j tZ).p=p:=⟨T.length,rfl,an,an⟩
 have hr1:RegE (T++[⟨p,[]⟩]) E1:=RegE.gro H hTn hdg.1 (RegE.tab _ an (λj hj=>by rw[iQ hj]) hreg);refine wW Tryz.func25 ?_
 repeat'(first|exact y0|refine y1 ?_|refine y2 ?_ ?_|refine y4 λh=>?_|refine wX 65 (pu hck ?_)|refine y3 ?_|exact y5|fail)
 refine Ex.inv (σ:=Nat) (λi=>[(16,nI (i:Nat))]) (λ_=>Eb E T) (λi=>i<=G.length) (λi=>G.length-i) 0 rfl (λ_=>rfl) (Z08 _) aV ⟨rfl,rfl,rfl,rfl,trivial⟩ ?_;intro j hj;by_cases hlt:j<G.length
 ·have hc:(G.getD j (0,0)).2=6:=h6 _ (JT hlt)
  repeat'(first|exact y0|refine y1 ?_|refine y2 ?_ ?_|refine y4 λh=>?_|refine y3 ?_|exact y5|fail)
  refine LoopR.same (j+1) hlt aa rfl ⟨VLe.of_eq (congrArg nI (by push_cast;omega)),trivial⟩ ⟨rfl,rfl,rfl,rfl,trivial⟩ rfl rfl ac
 by_cases he:e=0
 ·subst he
  repeat'(first|refine Ex.ld13 7 8 ac rfl rfl rfl ?_|exact y0|refine y1 ?_|refine y2 ?_ ?_|refine y4 λh=>?_|(refine wX 66 ?_;refine CallG.mv [0,1,2,3] 0 (bl1:={ik 1 2 3 (E.length:Nat) (1+(T.length:Int)) with ro:=true}) hcl rfl rfl aV rfl rfl (λφ w b h=>BlAt.weaken h true (λ_=>rfl)) rfl nC rfl rfl rfl rfl ?_)|refine wX 67 (pu hcn ?_)|refine wX 68 (pu hen ?_)|(refine wX 69 ?_;refine iq [7,4,5,6,8,9] hdc ?_ (wr:=[(7,some (IS 4 5 6 (E1.length:Nat) (1+(T.length:Int)+1) (1+(T.length:Int)) p (bZ t) (.row 10 11 fs.length) (.slc none 0 (some 0)))),(4,some (oB E1)),(5,some (pB E1)),(8,none),(10,mt 10 fs)]) (k2:=gt) (hle:=by exact⟨VLe.refl _,VLe.refl _,VLe.of_eq (congrArg nI (by rw[hs];omega)),VLe.agg ⟨SLe.refl _,SLe.refl _,SLe.nil,trivial⟩,trivial⟩))|refine RegX.tLen rfl rfl rfl rfl ?_|refine RegX.tNew ⟨p,[]⟩ rfl rfl ?_ ?_ rfl rfl rfl rfl ?_|refine y3 ?_|exact y5|fail)
  all_goals try first
   |omega
   |exact VLe.agg ⟨SLe.refl _,SLe.nil,trivial⟩
  have hB:=hB rfl;have hC:=hC rfl;have hml:=hdg.1.len
  have hfl:fs.length<=2048:=by simp only[Z0e] at hdl;omega
  refine Ex.frow 85 10 fs rfl rfl rfl rfl ?_;refine Ex.cel 7 8 (s':=.unk) rfl rfl (λφ x h=>Sr.cell h rfl) rfl ?_;refine Ex.cel 7 9 (s':=.row 12 13 0) rfl rfl SLe.nilrow rfl (Ex.upN (n':=14) ac ?_);refine Ex.canon [0,1,2,3,4,5,6,7,12,13] 126 [(0,.s (.ptr (some (0,0)))),(8,.s (.ptr (some (7,0)))),(85,.s (.frz (λk=>lj (fs.getD k Ef)) 4 fs.length)),(86,nI fs.length),(87,nI 0)] [(0,some (ik 1 2 3 (E.length:Nat) (1+(T.length:Int)))),(1,some (oB E)),(2,some (pB E)),(3,some (tB T)),(4,some (oB E1)),(5,some (pB E1)),(6,some (tB (T++[⟨p,[]⟩]))),(7,some (IS 4 5 6 (E1.length:Nat) (1+(T.length:Int)+1) (1+(T.length:Int)) p (bZ t) .unk (.row 8 9 0)))] rfl rfl ⟨VLe.refl _,VLe.refl _,VLe.refl _,VLe.refl _,VLe.refl _,trivial⟩ ⟨rfl,rfl,rfl,rfl,rfl,rfl,rfl,rfl,trivial⟩ rfl ?_
  refine Ex.inv (σ:=Nat×List Ent×List Int) (λq=>[(87,nI q.1)]) (λq=>[(0,some (ik 1 2 3 (E.length:Nat) (1+(T.length:Int)))),(1,some (oB E)),(2,some (pB E)),(3,some (tB T)),(4,some (oB q.2.1)),(5,some (pB q.2.1)),(6,some (tB (T++[⟨p,[]⟩]))),(7,some (IS 4 5 6 (q.2.1.length:Nat) (1+(T.length:Int)+1) (1+(T.length:Int)) p (bZ t) .unk (.row 8 9 q.2.2.length))),(8,jv 8 q.2.2)])
   (λq=>q.1<=fs.length/\q.2.1.length=E1.length/\(BitO q.2.1/\RegE (T++[⟨p,[]⟩]) q.2.1)/\RefG E1.length q.2.2/\q.2.2.length<=2*q.1/\kw p (T++[⟨p,[]⟩]) (fs.drop q.1) q.2.1 q.2.2=R) (λq=>fs.length-q.1) (0,E1,[]) rfl (λ_=>rfl) ?_ ?_ ?_ ?_
  ·exact⟨Z08 _,rfl,⟨hdg.2.1,hr1⟩,λr hr=>(by cases hr),Z02 _,hR⟩
  ·exact aV
  ·exact⟨rfl,rfl,rfl,rfl,rfl,rfl,rfl,rfl,trivial⟩
  rintro⟨j,E2,rs⟩ ⟨j1,j2,⟨j3,j4⟩,j5,j6,j7⟩;simp only at j1 j2 j3 j4 j5 j6 j7 |-;by_cases hj:j<fs.length
  ·have hdr:fs.drop j=fs.getD j Ef::fs.drop (j+1):=by rw[Z0k hj,Z00,Z01 hj];rfl
   have hmem:fs.getD j Ef∈fs:=by rw[Z00,Z01 hj];exact Z0s hj
   have hd:=(hdg.2.2 _ hmem).mono (N':=E2.length) (by rw[j2];exact Z02 _);have hres:=zk (1+(T.length:Int)+1) (1+(T.length:Int)) p (bZ t) H .unk rfl (T++[⟨p,[]⟩]) E2 rs aa E.length _ hd j4 j3 _ rfl;have hro:=Bp (num:=1+(T.length:Int)) (T:=T++[⟨p,[]⟩]) (i:=(fs.getD j Ef).node.toNat) (rs:=rs) hd j3 (by rw[j2];exact j5);rw[hdr,kw] at j7;generalize gX p (T++[⟨p,[]⟩]) (fs.getD j Ef) (fs.getD j Ef).node.toNat E2 rs=Q at hres hro j7;obtain⟨E3,rs3,e⟩:=Q;simp only at hres hro j7;obtain⟨⟨o1,o2⟩,o3,o4,o5⟩:=hro;by_cases he:e=0
   ·subst he
    rw[if_pos rfl] at j7
    repeat'(first|exact y0|refine y1 ?_|refine y2 ?_ ?_|refine y4 λh=>?_|(refine wX 70 ?_;refine iq [7,4,5,6,8,9] hres ?_ (wr:=[(7,some (IS 4 5 6 (E3.length:Nat) (1+(T.length:Int)+1) (1+(T.length:Int)) p (bZ t) .unk (.row 11 12 rs3.length))),(4,some (oB E3)),(5,some (pB E3)),(6,some (tB (T++[⟨p,[]⟩]))),(8,none),(11,jv 11 rs3)]) (k2:=BP))|refine y3 ?_|exact y5|fail)
    all_goals try exact y7
    refine LoopR.move (j+1,E3,rs3) ⟨by simp only;omega,by simp only;omega,⟨o2,RegE.gro H hTn o1 j4⟩,by rw[j2] at o4;exact o4,by simp only;omega,j7⟩ (by simp only;omega) [0,1,2,3,4,5,6,7,11,12] rfl ?_ ?_ ?_
    ·repeat' (first|exact VLe.refl _|exact VLe.any _|exact Z0o|exact VLe.of_eq (congrArg nI (by push_cast;omega))|refine⟨?_,?_⟩)
    ·exact⟨rfl,rfl,rfl,rfl,rfl,rfl,rfl,rfl,MemP.op rfl trivial⟩
    ·unfold jv
     generalize List.map _ rs3=cg
     cases cg<;>rfl
   ·rw[if_neg he] at j7
    obtain⟨rfl,rfl,rfl⟩:=hB (by rw[<-j7];exact he);subst j7
    repeat'(first|exact y0|refine y1 ?_|refine y2 ?_ ?_|refine y4 λh=>?_|(refine wX 70 ?_;refine iq [7,4,5,6,8,9] hres ?_ (wr:=[(7,some (IS 4 5 6 (E3.length:Nat) (1+(T.length:Int)+1) (1+(T.length:Int)) p (bZ t) .unk (.row 11 12 rs3.length))),(4,some (oB E3)),(5,some (pB E3)),(6,some (tB (T++[⟨p,[]⟩]))),(8,none),(11,jv 11 rs3)]) (k2:=BP))|refine y3 ?_|exact y5|fail)
    all_goals try exact y7
    exact⟨.inl rfl,_,[1,2,3],VLe.refl _,EndOK.move rfl ⟨rfl,rfl,rfl,rfl,trivial⟩ rfl rfl rfl rfl rfl⟩
  ·have hdr:fs.drop j=[]:=by simp;omega
   rw[hdr,kw] at j7;subst j7;obtain⟨rfl,rfl,rfl⟩:=hC rfl;simp only
   cases rs with
   |nil=>
    repeat'(first|refine Ex.cel23 7 9 (s':=Fr []) rfl rfl SLe.row0 rfl ?_|exact y0|refine y1 ?_|refine y2 ?_ ?_|refine y4 λh=>?_|refine RegX.tUpd T.length ⟨p,[]⟩ rfl rfl ?_ ?_ ?_ rfl rfl rfl rfl ?_|refine y3 ?_|exact y5|fail)
    all_goals try first
     |omega
     |exact VLe.refl _
    have hset:(T++[(⟨p,[]⟩:Tb)]).set T.length ⟨p,[]⟩=T++[⟨p,[]⟩]:=an;refine⟨.inl rfl,_,[4,5,6],VLe.refl _,EndOK.by rfl ⟨rfl,rfl,rfl,?_,trivial⟩ rfl rfl rfl rfl⟩;exact (show some (tB ((T++[(⟨p,[]⟩:Tb)]).set T.length ⟨p,[]⟩))=some (tB (T++[⟨p,[]⟩])) by rw[hset])
   |cons r rs=>
    repeat'(first|refine Ex.fzC23 7 9 (λk=>[.int .i64 ((r::rs).getD k 0)]) 1 rfl ac rfl rfl rfl rfl rfl (λ_ _=>rfl) (vF _) rfl ?_|exact y0|refine y1 ?_|refine y2 ?_ ?_|refine y4 λh=>?_|refine RegX.tUpd T.length ⟨p,r::rs⟩ rfl rfl ?_ ?_ ?_ rfl rfl rfl rfl ?_|refine y3 ?_|exact y5|fail)
    all_goals try first
     |omega
     |exact VLe.refl _
    have hset:(T++[(⟨p,[]⟩:Tb)]).set T.length ⟨p,(r::rs)⟩=T++[⟨p,(r::rs)⟩]:=an;refine⟨.inl rfl,_,[4,5,6],VLe.refl _,EndOK.by rfl ⟨rfl,rfl,rfl,?_,trivial⟩ rfl rfl rfl rfl⟩;exact (show some (tB ((T++[(⟨p,[]⟩:Tb)]).set T.length ⟨p,(r::rs)⟩))=some (tB (T++[⟨p,(r::rs)⟩])) by rw[hset])
 ·obtain⟨rfl,rfl,rfl⟩:=hA he
  repeat'(first|refine Ex.ld13 7 8 ac rfl rfl rfl ?_|exact y0|refine y1 ?_|refine y2 ?_ ?_|refine y4 λh=>?_|(refine wX 66 ?_;refine CallG.mv [0,1,2,3] 0 (bl1:={ik 1 2 3 (E.length:Nat) (1+(T.length:Int)) with ro:=true}) hcl rfl rfl aV rfl rfl (λφ w b h=>BlAt.weaken h true (λ_=>rfl)) rfl nC rfl rfl rfl rfl ?_)|refine wX 67 (pu hcn ?_)|refine wX 68 (pu hen ?_)|(refine wX 69 ?_;refine iq [7,4,5,6,8,9] hdc ?_ (wr:=[(7,some (IS 4 5 6 (E1.length:Nat) (1+(T.length:Int)+1) (1+(T.length:Int)) p (bZ t) (.row 10 11 fs.length) (.slc none 0 (some 0)))),(4,some (oB E1)),(5,some (pB E1)),(8,none),(10,mt 10 fs)]) (k2:=gt) (hle:=by exact⟨VLe.refl _,VLe.refl _,VLe.of_eq (congrArg nI (by rw[hs];omega)),VLe.agg ⟨SLe.refl _,SLe.refl _,SLe.nil,trivial⟩,trivial⟩))|refine RegX.tLen rfl rfl rfl rfl ?_|refine RegX.tNew ⟨p,[]⟩ rfl rfl ?_ ?_ rfl rfl rfl rfl ?_|refine y3 ?_|exact y5|fail)
  all_goals try first
   |omega
   |exact VLe.agg ⟨SLe.refl _,SLe.nil,trivial⟩
  exact⟨.inl rfl,_,[1,2,3],VLe.refl _,EndOK.move rfl ⟨rfl,rfl,rfl,rfl,trivial⟩ rfl rfl rfl rfl rfl⟩
end
structure LoadR (p:List Nd) (E:List Ent) (T:List Tb) (E':List Ent) (T':List Tb) (z e:Int):Prop where
 h:FC Tryz.prog 25 [.s (.ptr (some (0,0))),al p] 4 (Eb E T) (.tup [.s (.int .i64 z),.s (.int .i64 e)]) 7 (I4 E' T')
 o:(e≠0/\z=0/\E'=E/\T'=T)\/(e=0/\z=1+(T.length:Int)/\∃ rs,T'=T++[⟨p,rs⟩]/\PrO p/\Gro p (1+(T.length:Int)) E.length E E'/\RefG E'.length rs/\RegE T' E'/\BitO E')
def E0:List Ent:=[dH [92] 10 (-1) 0 0,dH [92,95,83,66] 10 0 0 0,dH [92,95,71,80,69] 10 0 0 0]
theorem GJ:FC Tryz.prog 10 [] 0 [] (.s (.ptr (some (0,0)))) 4 [(0,some (ik 1 2 3 3 1)),(1,some (oB E0)),(2,some (pB E0)),(3,some (tB []))]:=by
 refine wW Tryz.func10 ?_
 repeat'(first|exact y0|refine y1 ?_|refine y2 ?_ ?_|refine y4 λh=>?_|refine RegX.mkM (tx:=76) rM true 14 io fN rfl ?_|refine RegX.mkM (tx:=77) IT false 1 iC (λ_=>rfl) rfl ?_|refine RegX.mkM (tx:=78) rM true 2 lu gA rfl ?_|refine y3 ?_|exact y5|fail)
 refine Ex.inv (σ:=Nat) (λj=>[(12,nI j)]) (λj=>[(0,some (oB (E0.take j))),(1,some (pB (E0.take j))),(2,some (tB [])),(3,some (ik 0 1 2 3 1)),(4,some {cells:=[.str [92],.str [92,95,83,66],.str [92,95,71,80,69]],ty:=9})]) (λj=>j<=3) (λj=>3-j) 0 rfl (λ_=>rfl) (Z08 _) aV ⟨rfl,rfl,rfl,rfl,rfl,trivial⟩ ?_;intro j hj
 match j,hj with
 |0,_=>
  repeat'(first|exact y0|refine y1 ?_|refine y2 ?_ ?_|refine y4 λh=>?_|refine RegX.oNew (E:=E0.take 0) (dH [92] 10 (-1) 0 0) rfl rfl rfl (VLe.refl _) rfl rfl rfl rfl ?_|refine RegX.pNew (E:=E0.take 0) (dH [92] 10 (-1) 0 0) rfl rfl rfl rfl rfl rfl rfl rfl rfl ?_|refine y3 ?_|exact y5|fail)
  all_goals try exact y7
  exact LoopR.same 1 ac ac rfl aV ⟨rfl,rfl,rfl,rfl,rfl,trivial⟩ rfl rfl ac
 |1,_=>
  repeat'(first|exact y0|refine y1 ?_|refine y2 ?_ ?_|refine y4 λh=>?_|refine RegX.oNew (E:=E0.take 1) (dH [92,95,83,66] 10 0 0 0) rfl rfl rfl (VLe.refl _) rfl rfl rfl rfl ?_|refine RegX.pNew (E:=E0.take 1) (dH [92,95,83,66] 10 0 0 0) rfl rfl rfl rfl rfl rfl rfl rfl rfl ?_|refine y3 ?_|exact y5|fail)
  all_goals try exact y7
  exact LoopR.same 2 ac ac rfl aV ⟨rfl,rfl,rfl,rfl,rfl,trivial⟩ rfl rfl ac
 |2,_=>
  repeat'(first|exact y0|refine y1 ?_|refine y2 ?_ ?_|refine y4 λh=>?_|refine RegX.oNew (E:=E0.take 2) (dH [92,95,71,80,69] 10 0 0 0) rfl rfl rfl (VLe.refl _) rfl rfl rfl rfl ?_|refine RegX.pNew (E:=E0.take 2) (dH [92,95,71,80,69] 10 0 0 0) rfl rfl rfl rfl rfl rfl rfl rfl rfl ?_|refine y3 ?_|exact y5|fail)
  all_goals try exact y7
  exact LoopR.same 3 ac ac rfl aV ⟨rfl,rfl,rfl,rfl,rfl,trivial⟩ rfl rfl ac
 |3,_=>
  repeat'(first|exact y0|refine y1 ?_|refine y2 ?_ ?_|refine y4 λh=>?_|refine y3 ?_|exact y5|fail)
  exact⟨.inl rfl,_,[3,0,1,2],VLe.refl _,EndOK.by rfl ⟨rfl,rfl,rfl,rfl,trivial⟩ rfl rfl rfl rfl⟩
 |j+4,h=>omega
inductive DocS (ts:List Tk):Nat->Nat->List Nd->List Nd->Prop
 |nil {out:List Nd}:DocS ts 0 ts.length out out
 |cons {n i i1:Nat} {out out1 out2:List Nd} (hi:i<ts.length) (hn:i7 ts 68 i out i1 out1) (r:DocS ts n i1 out1 out2):DocS ts (n+1) i out out2
theorem zu {a:Nd} {j:Nat} {x:S} (h:(ndC a)[j]? =some x):bE x=true:=by
 rcases j with _|_|_|_|j
 ·cases h;rfl
 ·cases h;rfl
 ·cases h;rfl
 ·cases h;rfl
 ·simp[ndC] at h
theorem EW (s:By) (ts:List Tk) (n:Nat) (p:List Nd) (hT:TokS s 0 ts) (hl0:s.length<=65536) (hn:∀ j,s.getD j 0≠47) (hts:ts.length<=100000) (hD:DocS ts n 0 [] p) (hp:p≠[]) (hw:pn p) (hv:cy p=true):FC Tryz.prog 44 [sV s] 0 [] (.tup [.s (.frz (λk=>ndC (p.getD k dN)) 4 p.length),.s (.int .i64 0),.s (.int .i64 0)]) 0 []:=by
 have hsc:=Ht s ts hT hl0 hn hts;have hva:=fB p hw;rw[hv] at hva;refine wW Tryz.func44 ?_
 repeat'(first|exact y0|refine y1 ?_|refine y2 ?_ ?_|refine y4 λh=>?_|refine wX 80 (pu hsc ?_)|refine y3 ?_|exact y5|fail)
 refine Ex.celP 0 2 (s':=.row 1 2 0) rfl rfl SLe.nilrow rfl (Ex.upN (n':=3) ac ?_);refine Ex.inv (σ:=Nat×Nat×List Nd) (λs=>[]) (λs=>[(0,some (rp 1 2 ts s.2.1 s.2.2.length)),(1,nB 1 s.2.2)]) (λs=>DocS ts s.1 s.2.1 s.2.2 p) (λs=>s.1) (n,0,[]) rfl (λ_=>rfl) hD trivial ⟨rfl,SubP.op rfl trivial⟩ ?_;clear hD hT;rintro⟨n,i,o⟩ d;simp only at d |-
 cases d with
 |nil=>
  obtain⟨x0,o,rfl⟩:∃ x0 o,p=x0::o:=by
   cases p with
   |nil=>exact absurd rfl hp
   |cons x0 o=>exact⟨x0,o,rfl⟩
  refine Ex.celP 0 2 (s':=.sla 1 2 (o.length+1)) rfl rfl (SLe.rowsla (Z1n _)) rfl ?_;refine Ex.fzC 0 2 (λk=>ndC ((x0::o).getD k dN)) 4 (i:=1) (N:=(x0::o).length) rfl ac rfl rfl rfl rfl rfl (λ_ _=>rfl) (λk j x hk hx=>⟨cF ndC 4 dN (λ_=>rfl) (l:=x0::o) hk hx,zu hx⟩) rfl ?_
  repeat'(first|exact y0|refine y1 ?_|refine y2 ?_ ?_|refine y4 λh=>?_|refine wX 47 (pu hva ?_)|refine y3 ?_|exact y5|fail)
  all_goals try exact y7
  all_goals exact Fin.plain (.inl rfl) rfl rfl rfl
 | @cons n _ i1 _ out1 _ hi hn r=>
   repeat'(first|exact y0|refine y1 ?_|refine y2 ?_ ?_|refine y4 λh=>?_|(refine wX 81 ?_;refine iq [0,1,2] hn ?_ (wr:=[(0,some (rp 3 4 ts i1 out1.length)),(1,none),(3,nB 3 out1)]) (k2:=gr))|refine y3 ?_|exact y5|fail)
   all_goals try exact y7
   refine LoopR.move (n,i1,out1) r (by show n<n+1;omega) [0,3,4] rfl ?_ ?_ ?_
   ·repeat' (first|exact VLe.refl _|exact VLe.any _|exact Z0o|refine⟨?_,?_⟩)
   ·exact⟨rfl,MemP.op rfl trivial⟩
   ·unfold nB
    generalize List.flatMap _ _=cg
    cases cg<;>rfl
section
variable {i:Nat} {s:By} {ts:List Tk}
theorem JC:FC Tryz.prog 204 [sV [49]] 0 [] (.tup [.s (.int .u64 1),.s (.bool true)]) 0 []:=by
 have hd:=kY 49;rw[show jT 49=true from rfl] at hd;refine wW Tryz.func204 ?_
 repeat'(first|exact y0|refine y1 ?_|refine y2 ?_ ?_|refine y4 λh=>?_|refine wX 203 (bo hd ?_)|refine Unr.next' rfl ?_|refine Ex.unroll 2 ?_|refine y3 ?_|exact y5|fail)
 all_goals exact Fin.plain (.inl rfl) rfl rfl rfl
def awS:By:=[68,101,118,105,99,101,32,40,88,41,32,123,78,97,109,101,32,40,95,65,68,82,44,32,49,41,125]
abbrev J6 (s:By) (i:Nat) (t:Tk) (k:Nat):Prop:=FC Tryz.prog 136 [sV s,nI i] 0 [] (IL t (k:Nat)) 0 []
theorem GP (w:By) (k:Nat) (h0:iP s i=k) (h1:(s.take k).drop i=w) (hb:(decide (i<s.length/\s.length<1000000000/\k<=i+32/\k<=s.length)&&(fI ((s.getD i 0).toNat:Int)&&pF w))=true):J6 s i ⟨2,0,w,(i:Nat)⟩ k:=by
 subst h0;subst h1;simp only[Z07,decide_eq_true_eq] at hb;obtain⟨⟨a,b,c,d⟩,e,f⟩:=hb;exact Fm s i a b e f c d
theorem GO (w:By) (k:Nat) (h0:iP s i=k) (h1:(s.take k).drop i=w) (hb:(decide (i<s.length/\s.length<1000000000/\k<s.length/\s.getD k 0≠46)&&(fI ((s.getD i 0).toNat:Int)&&(!pF w&&aT w)))=true):J6 s i ⟨1,0,w,(i:Nat)⟩ k:=by
 subst h0;subst h1;simp only[Z07,decide_eq_true_eq,Z0v] at hb;obtain⟨⟨a,b,c,d⟩,e,f,g⟩:=hb;exact Fl s i a b e f g c d
theorem JA (w:By) (v:Int) (k:Nat) (h0:iP s i=k) (h1:(s.take k).drop i=w) (hb:(decide (i<s.length/\s.length<1000000000/\k<=s.length)&&(!fI ((s.getD i 0).toNat:Int)&&jT ((s.getD i 0).toNat:Int)))=true) (hv:FC Tryz.prog 204 [sV w] 0 [] (.tup [.s (.int .u64 v),.s (.bool true)]) 0 []):J6 s i ⟨3,v,[],(i:Nat)⟩ k:=by
 subst h0;subst h1;simp only[Z07,decide_eq_true_eq,Z0v] at hb;obtain⟨⟨a,b,c⟩,e,f⟩:=hb;exact Fn s i v a b e f c hv
theorem oJ (c:Int) (z:Int) (hb:decide (i<s.length/\s.length<1000000000/\((s.getD i 0).toNat:Int)=c/\(c=40\/c=41\/c=123\/c=125\/c=44)/\vS c=z)=true):J6 s i ⟨z,0,[],(i:Nat)⟩ (i+1):=by
 obtain⟨a,b,c,d,e⟩:=of_decide_eq_true hb;subst e;exact Fk s i _ a b c d
abbrev awTk:List Tk:=[⟨2,0,[68,101,118,105,99,101],(0:Nat)⟩,⟨5,0,[],(7:Nat)⟩,⟨1,0,[88],(8:Nat)⟩,⟨6,0,[],(9:Nat)⟩,⟨7,0,[],(11:Nat)⟩,⟨2,0,[78,97,109,101],(12:Nat)⟩,⟨5,0,[],(17:Nat)⟩,⟨1,0,[95,65,68,82],(18:Nat)⟩,⟨9,0,[],(22:Nat)⟩,⟨3,1,[],(24:Nat)⟩,⟨6,0,[],(25:Nat)⟩,⟨8,0,[],(26:Nat)⟩]
theorem TokS.go (j:Nat) {k:Nat} {t:Tk} (hb:decide (i<=s.length/\I6 s i=j/\j<s.length)=true) (hit:J6 s j t k) (r:TokS s k ts):TokS s i (t::ts):=by
 obtain⟨a,b,c⟩:=of_decide_eq_true hb;exact TokS.cons a b c hit r
theorem Iu:TokS awS 0 awTk:=
 .go 0 rfl (GP _ 6 rfl rfl rfl)<| .go 7 rfl (oJ 40 5 rfl)<| .go 8 rfl (GO _ 9 rfl rfl rfl)<| .go 9 rfl (oJ 41 6 rfl)<| .go 11 rfl (oJ 123 7 rfl)<| .go 12 rfl (GP _ 16 rfl rfl rfl)<| .go 17 rfl (oJ 40 5 rfl)<| .go 18 rfl (GO _ 22 rfl rfl rfl)<| .go 22 rfl (oJ 44 9 rfl)<| .go 24 rfl (JA [49] 1 25 rfl rfl rfl JC)<| .go 25 rfl (oJ 41 6 rfl)<| .go 26 rfl (oJ 125 8 rfl)<| .nil ac rfl
def awP:List Nd:=[⟨11,0,[],2⟩,⟨3,0,[88],0⟩,⟨4,0,[],1⟩,⟨13,0,[],2⟩,⟨3,0,[95,65,68,82],0⟩,⟨1,1,[],0⟩]
theorem GN {m:Nat} (w:By) (op:Int) (hts:ts.length<=100000) (hi:i<ts.length) (hk:(ts.getD i mA).kind=2) (hw:(ts.getD i mA).str=w) (hb:(decide (w.length<=1000/\ ¬(w.length=6/\w.take 5=[76,111,99,97,108]))&&decide (¬(w.length=4/\w.take 3=[65,114,103])))=true) (ho:(qG w rowsL).1.1=op):qF ts i m ⟨op,0,[],0⟩:=by
 subst hw;simp only[Z07,decide_eq_true_eq] at hb;exact Fb ts i m hts hi hk hb.1.1 hb.1.2 hb.2 op ho
theorem GL {out:List Nd} (w:By) (k:Int) (hts:ts.length<=100000) (hi:i<ts.length) (ho:out.length<=100000) (hkd:(ts.getD i mA).kind=1) (hw:(ts.getD i mA).str=w) (hk:k≠83/\k≠101) (hp:bn k 3=true) (hs:k=115->aT w=true) (hl:w.length<=1000) (hpp:(ah w).2=true):i7 ts k i out (i+1) (out++[⟨3,0,w,0⟩]):=by
 subst hw;exact qc ts k i out _ hts hi ho (Fa ts i out.length hts hi hkd hl hpp) (.inr rfl) hk hp hs hl
theorem Iw:DocS awTk 1 0 [] awP:=by
 have h1:i7 awTk 100 9 [⟨11,0,[],2⟩,⟨3,0,[88],0⟩,⟨4,0,[],1⟩,⟨13,0,[],2⟩,⟨3,0,[95,65,68,82],0⟩] 10 awP:=
  qc awTk 100 9 _ ⟨1,1,[],0⟩ ac ac ac (Fc awTk 9 5 ac ac rfl) (.inl rfl) ac rfl ac ac
 have h2:i7 awTk 115 7 [⟨11,0,[],2⟩,⟨3,0,[88],0⟩,⟨4,0,[],1⟩,⟨13,0,[],2⟩] 8 [⟨11,0,[],2⟩,⟨3,0,[88],0⟩,⟨4,0,[],1⟩,⟨13,0,[],2⟩,⟨3,0,[95,65,68,82],0⟩]:=
  GL [95,65,68,82] 115 ac ac ac rfl rfl ac rfl (λ_=>rfl) ac rfl
 have h3:i7 awTk 68 5 [⟨11,0,[],2⟩,⟨3,0,[88],0⟩,⟨4,0,[],1⟩] 11 awP:=by
  refine tY awTk 68 5 11 _ awP 13 ac ac ac (GN [78,97,109,101] 13 ac ac rfl rfl rfl rfl) (.inr rfl) ac rfl ?_;exact o6 awTk ac [115,100] [] ac 3 6 10 11 _ awP awP ac ac rfl ac (.cons rfl (λh=>by cases h) (λ_=>rfl) h2 (.cons rfl (λ_=>⟨rfl,rfl,ac⟩) (λh=>by cases h) h1 .nil)) rfl ac .nil
 have h4:xm awTk 68 4 [⟨11,0,[],2⟩,⟨3,0,[88],0⟩] 12 awP:=
  FY awTk ac 68 ac 1 4 11 _ awP ac ac rfl ac (.cons (c:=0) ac h3 ac ac rfl .nil) rfl ac
 have h5:i7 awTk 115 2 [⟨11,0,[],2⟩] 3 [⟨11,0,[],2⟩,⟨3,0,[88],0⟩]:=
  GL [88] 115 ac ac ac rfl rfl ac rfl (λ_=>rfl) ac rfl
 have h6:i7 awTk 68 0 [] 12 awP:=by
  refine tY awTk 68 0 12 [] awP 11 ac ac ac (GN [68,101,118,105,99,101] 11 ac ac rfl rfl rfl rfl) (.inl rfl) ac rfl ?_;exact o6 awTk ac [115] [68] ac 0 1 3 12 _ _ awP ac ac rfl ac (.cons rfl (λh=>by cases h) (λ_=>rfl) h5 .nil) rfl ac (.cons rfl h4 .nil)
 exact .cons ac h6 .nil
theorem EX:FC Tryz.prog 44 [sV [68,101,118,105,99,101,32,40,88,41,32,123,78,97,109,101,32,40,95,65,68,82,44,32,49,41,125]] 0 [] (.tup [.s (.frz (λk=>ndC (awP.getD k dN)) 4 6),.s (.int .i64 0),.s (.int .i64 0)]) 0 []:=by
 refine EW awS awTk 1 awP Iu ac ?_ ac Iw ac ?_ rfl
 ·intro j
  by_cases h:j<27
  ·revert j;decide
  ·rw[Z00,Z0b (by show 27<=j;omega)];decide
 ·intro x hx
  simp only[awP,Z0h,Z3t,or_false] at hx
  rcases hx with rfl|rfl|rfl|rfl|rfl|rfl<;>decide
end
def objC (x:Ent):List S:=[.str x.path,.int .i64 x.op,.int .i64 x.par,.int .i64 x.tab,.int .i64 x.node]
def getO (E:List Ent) (z:Int):Option Ent:=if z<0 then none else E[z.toNat]?
theorem Jn (E:List Ent) (T:List Tb) (z:Int) (r:Option Ent) (hr:getO E z=r):FC Tryz.prog 27 [.s (.ptr (some (0,0))),nI z] 4 (Eb E T) (.tup [.agg (objC (r.getD eZ)),.s (.bool r.isSome)]) 4 (Eb E T):=by
 refine wW Tryz.func27 ?_
 repeat'(first|exact y0|refine y1 ?_|refine y2 ?_ ?_|refine y4 λh=>?_|refine RegX.oLkT r rfl rfl rfl rfl rfl rfl hr rfl ?_|refine y3 ?_|exact y5|fail)
 exact bh
theorem wm (E:List Ent) (T:List Tb) (s nm:By) (hs:s.length<9223372036854775807) (hn:nm.length<9223372036854775807):
 FC Tryz.prog 20 [.s (.ptr (some (0,0))),sV s,sV nm] 4 (Eb E T) (.tup [.s (.int .i64 (((d7 E s nm).getD 0:Nat):Int)),.s (.bool (d7 E s nm).isSome)]) 4 (Eb E T):=by
 have h1:=fF s hs;have h2:=fF nm hn;have hv:= @kE s;unfold d7;generalize ah s=r1 at h1 hv |-;generalize ah nm=r2 at h2 |-;obtain⟨q1,ok1⟩:=r1;obtain⟨q2,ok2⟩:=r2;refine wW Tryz.func20 ?_;cases ok1
 ·
  repeat'(first|exact y0|refine y1 ?_|refine y2 ?_ ?_|refine y4 λh=>?_|refine wX 48 (pu h1 ?_)|refine y3 ?_|exact y5|fail)
  exact bh
 cases ok2
 ·
  repeat'(first|exact y0|refine y1 ?_|refine y2 ?_ ?_|refine y4 λh=>?_|refine wX 48 (pu h1 ?_)|refine wX 48 (pu h2 ?_)|refine y3 ?_|exact y5|fail)
  exact bh
 simp only[and_self,if_true];have hcd:=w4 q1 q2;have hroot:= @jV q1 q2;have hcl:=l6 q1 q2;obtain⟨hu0,_,hseg,_,_,_⟩:=aJ (hv rfl);simp only at hseg hu0;generalize aL q1 q2=cs at*
 repeat'(first|exact y0|refine y1 ?_|refine y2 ?_ ?_|refine y4 λh=>?_|refine wX 48 (pu h1 ?_)|refine wX 48 (pu h2 ?_)|refine wX 49 (pu hcd ?_)|refine y3 ?_|exact y5|fail)
 refine Ex.inv (σ:=Nat) (λj=>[(33,nI j)]) (λj=>Eb E T) (λj=>j<=cs.length/\x8 E (cs.drop j)=x8 E cs) (λj=>cs.length-j) 0 rfl (λ_=>rfl) ⟨Z08 _,rfl⟩ aV ⟨rfl,rfl,rfl,rfl,trivial⟩ ?_;rintro j ⟨j1,j2⟩;by_cases hj:j<cs.length
 ·rw[Z0k hj] at j2
  have hg:cs.getD j z0=cs[j]:=by simp[Z00,hj]
  have hrt:(cs.getD j z0).root=true:=by rw[hg];exact hroot _ (Z0s hj)
  have hf:=oO (cs.getD j z0) hrt;rw[<-hg,x8] at j2
  cases hl:mp 0 E (aI (cs.getD j z0)) with
  |none=>
   rw[hl] at j2
   repeat'(first|exact y0|refine y1 ?_|refine y2 ?_ ?_|refine y4 λh=>?_|refine wX 50 (pu hf ?_)|refine RegX.pLk none rfl rfl rfl rfl rfl rfl hl rfl ?_|refine y3 ?_|exact y5|fail)
   all_goals try exact y7
   exact LoopR.same (j+1) ⟨hj,j2⟩ aa rfl aV ⟨rfl,rfl,rfl,rfl,trivial⟩ rfl rfl ac
  |some k=>
   rw[hl] at j2;simp only at j2
   repeat'(first|exact y0|refine y1 ?_|refine y2 ?_ ?_|refine y4 λh=>?_|refine wX 50 (pu hf ?_)|refine RegX.pLk (some k) rfl rfl rfl rfl rfl rfl hl rfl ?_|refine y3 ?_|exact y5|fail)
   all_goals try omega
   rw[<-j2];exact bh
 ·have hd:cs.drop j=[]:=by simp;omega
  rw[hd] at j2;simp only[x8] at j2;rw[<-j2]
  repeat'(first|exact y0|refine y1 ?_|refine y2 ?_ ?_|refine y4 λh=>?_|refine y3 ?_|exact y5|fail)
  all_goals exact bh
theorem xo {p:List Nd}:∀ {t t':Fo} {i:Nat},t.At p i->t'.At p i->t.cnt=t'.cnt->t=t'
 | .nil,.nil,_,_,_,_=>rfl
 | .nil,.cons _ _ _,_,_,_,h=>by simp[Fo.cnt] at h
 | .cons _ _ _,.nil,_,_,_,h=>by simp[Fo.cnt] at h
 | .cons x k n,.cons x' k' n',i,h1,h2,h=>by
   obtain⟨a1,a2,a3,a4⟩:=h1;obtain⟨b1,b2,b3,b4⟩:=h2;rw[a1] at b1;cases b1;have hk:=xo a3 b3 aa;subst hk;have hn:=xo a4 b4 (by simp only[Fo.cnt] at h;omega);subst hn;rfl
theorem Hc {p:List Nd}:∀ {t t':Fo} {i:Nat},t.At p i->t'.At p i->t.size=t'.size->t=t'
 | .nil,.nil,_,_,_,_=>rfl
 | .nil,.cons _ _ _,_,_,_,h=>by simp only[Fo.size] at h;omega
 | .cons _ _ _,.nil,_,_,_,h=>by simp only[Fo.size] at h;omega
 | .cons x k n,.cons x' k' n',i,h1,h2,h=>by
   obtain⟨a1,a2,a3,a4⟩:=h1;obtain⟨b1,b2,b3,b4⟩:=h2;rw[a1] at b1;cases b1;have hk:=xo a3 b3 aa;subst hk;have hn:=Hc a4 b4 (by simp only[Fo.size] at h;omega);subst hn;rfl
def awT:Fo:=.cons ⟨11,0,[],2⟩ (.cons ⟨3,0,[88],0⟩ .nil (.cons ⟨4,0,[],1⟩ (.cons ⟨13,0,[],2⟩ (.cons ⟨3,0,[95,65,68,82],0⟩ .nil (.cons ⟨1,1,[],0⟩ .nil .nil)) .nil) .nil)) .nil
def F4:List Ent:=E0++[dH [92,88] 11 0 1 0,dH [92,88,46,95,65,68,82] 13 3 1 3]
theorem JX:awT.At awP 0:=by
 unfold awT
 repeat' (first|exact trivial|exact rfl|refine⟨?_,?_⟩)
theorem vg:cy awP=true:=by decide+kernel
theorem JY:kx awP (anS awP awT).F (anS awP awT).S awT awP.length 0 (anS awP awT).G=[]:=by decide+kernel
theorem Iv:d_ []=[]:=by simp[d_]
theorem aw_D:aS awP 1 false awT 0 ⟨true,0,[]⟩ E0 []=(F4,[],0):=by kernel_rfl
theorem GZ:BitO E0:=by
 intro k
 match k with
 |0=>exact (ac:(0:Int)<=1099511627776)
 |1=>exact (ac:(0:Int)<=1099511627776)
 |2=>exact (ac:(0:Int)<=1099511627776)
 |k+3=>exact (ac:(0:Int)<=1099511627776)
theorem GB:RegE [] E0:=by
 intro k hk ho
 match k,hk with
 |0,_=>exact absurd ho ac
 |1,_=>exact absurd ho ac
 |2,_=>exact absurd ho ac
theorem F3:FC Tryz.prog 12 [] 0 [] (bV true) 0 []:=by
 have hw:mS awP:=by
  intro x hx;have:∀ x∈awP,x.str.length<=10:=ac;have:=this x hx;omega
 have hI:pR awP:=by
  have:∀ x∈awP,0<=x.int:=ac;exact this
 obtain⟨h1,t,ha,hv,hd,hs⟩:=j8 vg;have ht:t=awT:=Hc ha JX (by rw[hs];rfl);subst ht;have hck:=qu awP hw hI vg h1 awT ha hv hs
 have h6:C6 (kx awP (anS awP awT).F (anS awP awT).S awT awP.length 0 (anS awP awT).G):=by rw[JY];intro d hd;cases hd
 have H:PrO awP:=⟨h1,hw,hI,λj hj=>Dx h6 j hj,λj hj=>by
  obtain⟨sl,h1,h2⟩:=cC ha hv (Z08 _) (aa:j<0+awT.size)
  exact v_ h1 h2⟩
 rw[JY,Iv] at hck;have hen:=CR awP h1 ac awT ha hv hs
 have hld:=Cc awP H [] ac hck (λd hd=>by cases hd) awT ha hv hs (uU ha hv hs) hen E0 [] ac GB GZ _ aw_D (F4,[],0) rfl _ _ _ (λh=>absurd rfl h) (λ_ h=>absurd rfl h) λ_ _=>⟨rfl,rfl,rfl⟩
 have hpa:=EX;have hn:=GJ;have l1:=wm F4 [⟨awP,[]⟩] [92,88] [95,65,68,82] ac ac;rw[show d7 F4 [92,88] [95,65,68,82]=some 4 by kernel_rfl] at l1;have l2:=wm F4 [⟨awP,[]⟩] [92,88] [88] ac ac;rw[show d7 F4 [92,88] [88]=some 3 by kernel_rfl] at l2;have ho:=Jn F4 [⟨awP,[]⟩] 4 (some (dH [92,88,46,95,65,68,82] 13 3 1 3)) rfl;refine wW Tryz.func12 ?_
 repeat'(first|exact y0|refine y1 ?_|refine y2 ?_ ?_|refine y4 λh=>?_|refine wX 44 (pu hpa ?_)|refine wX 10 (cf [] hn ?_)|(refine wX 25 ?_;refine CallG.mo [0,1,2,3] hld rfl rfl rfl rfl rfl aV nC rfl rfl (wr:=[(0,some (ik 4 5 6 5 2)),(1,none),(2,none),(3,none),(4,some (oB F4)),(5,some (pB F4)),(6,some (tB [⟨awP,[]⟩]))]) (by rfl) ?_)|refine wX 20 (cf [0,4,5,6] l1 ?_)|refine wX 20 (cf [0,4,5,6] l2 ?_)|refine wX 27 (cf [0,4,5,6] ho ?_)|refine y3 ?_|exact y5|fail)
 refine RegX.atCmp (CmpG.go rfl rfl ⟨⟨by kernel_rfl,by kernel_rfl⟩,trivial⟩ (BrG.any (λh=>?_) (λh=>?_)))
 ·
  repeat'(first|exact y0|refine y1 ?_|refine y2 ?_ ?_|refine y4 λh=>?_|refine y3 ?_|exact y5|fail)
  exact Fin.bool (.inl rfl) rfl rfl
 ·exfalso;revert h;decide
end Go.Proofs.YtegjgpldfgjoiaaGreatDoor
namespace Go.Proofs.YtegjgpldfgjoiaaGreatDoor
open Go Ab Go.RowKit Go.Maps Go.Sort Go.Shelf
set_option maxRecDepth 100000
end Go.Proofs.YtegjgpldfgjoiaaGreatDoor
namespace Go.Proofs.YtegjgpldfgjoiaaGreatDoor
open Go Ab
set_option maxRecDepth 100000
set_option maxHeartbeats 40000000
section
variable {P:Program} {b:Nat} {env:List V} {n:Nat} {L:Hp} {R:Post}
theorem Ex.irow {c:Code} (t i:Nat) (l:List Int) {N:Nat} (hN:l.length=N) (ht:env.getD t .undef=.s (.row i (i+1) N)) (hl:lk L i=jv i l) {env':List V} (he:env.set t (.s (.frz (λk=>[.int .i64 (l.getD k 0)]) 1 N))=env') {L':Hp} (hL:put L i none=L') (k:Ex P b c env' n L' R):Ex P b c env n L R:=by
 subst hN
 cases l with
 |nil=>
  subst hL;refine Ex.set t _ (by rw[ht];exact VLe.s SLe.row0) he (Ex.subF (λj bl hj=>?_) k);rw[az] at hj;split at hj
  ·cases hj
  ·exact⟨bl,hj,rfl,λ_ _ _ h=>h⟩
 |cons x fs=>
  have hlen:t<env.length:=by
   rcases Z0a t env.length with h|h
   ·exact h
   ·rw[Z00,Z0b h] at ht;cases ht
  refine Ex.set t (.s (.sla i (i+1) (x::fs).length)) (by rw[ht];exact VLe.s (SLe.rowsla (Z1n _))) rfl ?_;refine Ex.fz t (λk=>[.int .i64 ((x::fs).getD k 0)]) 1 (bl:={cells:=(x::fs).map λz=>S.int .i64 z,ty:=3,more:=true,sym:=true,flat:=true,gh:=some (i+1,1)}) (i:=i) (N:=(x::fs).length) ?_ hl rfl rfl (λ_ _=>rfl) (vF _) ?_ hL k
  ·rw[Z00,Z1i,if_pos rfl,if_pos hlen];rfl
  ·rw[<-he,Z5m]
end
end Go.Proofs.YtegjgpldfgjoiaaGreatDoor
namespace Go.Proofs.YtegjgpldfgjoiaaGreatDoor
open Go Ab
open Go.ChangeShapes Go.WideShapes Go.ChangeAt Go.RowKit
set_option maxRecDepth 100000
section
variable {H:Type} {w:World} {p:List MemPlace} {v:Value}
theorem own:ownKnob Tryz.prog.godebug=none:=by kernel_rfl
theorem kN:laidOutB Tryz.prog=true:=by kernel_rfl
theorem SC.law {P:Program} {f:FuncId} {args:List V} {n:Nat} {L:Hp} {n':Nat} {L':Hp} (h:SC P f args n L (.s (.bool true)) n' L') (hro:∀ i bl,lk L i=some bl->bl.ro=true) {φ:Ph} {xs:List Value}
 (h1:All2 (Vr φ) args xs) (h2:Ab.Good φ L w) (h3:∀ i,n<=i->φ i=none):Calls P f xs.toArray w λe w'=>e=.returned (.bool true)/\Below w.heap.size w w':=by
 refine Z4d (h φ xs w h1 h2 h3) ?_;rintro e w' ⟨φ',x,rfl,hv,_,_,st,_⟩;have hx:x=.bool true:=hv;refine⟨by rw[hx],st.os,st.tape,st.output,st.size,λk hk=>st.keep k hk ?_⟩;rintro⟨i,bl,c,hl,_,_,hr⟩;rw[hro i bl hl] at hr;cases hr
theorem xE (s:ByteArray):Value.string s=.string ⟨s.data.toList.toArray⟩:=by cases s;simp
def yZ {H:Type}:List (DataW H)->List S
 |[]=>[]
 | .agg [.lit (.string a),.lit (.string b)]::t=> .str a::.str b::yZ t
 |_::t=>yZ t
theorem qv:Tryz.prog.cellsOf 293=2:=by kernel_rfl
theorem Dr:Tryz.prog.cellsOf 9=1:=by kernel_rfl
theorem zA {enc:TypeId×Value->H} {base:Nat} {spare:Nat->Bool} {held:Bool} {fuel:Nat} {cs:List Value} {x:DataW H×List MemPlace} (h:DataW.trod enc Tryz.prog w base spare held fuel 293 cs=some x):
 ∃ a b:List UInt8,cs=[.string ⟨a.toArray⟩,.string ⟨b.toArray⟩]/\x.1=.agg [.lit (.string a),.lit (.string b)]:=by
 obtain⟨xs,m,rfl,rfl,hlen,hn,hf⟩:=DataW.trod_struct Tryz.underlying293 h;rw[qv] at hlen
 match cs,hlen with
 |[c0,c1],_=>
  have f0:=hf 0 _ rfl;have f1:=hf 1 _ rfl;change DataW.trod enc Tryz.prog w base spare held m 9 (([c0,c1].drop 0).take (Tryz.prog.cellsOf 9))=_ at f0;change DataW.trod enc Tryz.prog w base spare held m 9 (([c0,c1].drop 1).take (Tryz.prog.cellsOf 9))=_ at f1;rw[Dr] at f0 f1;have hn:xs.length=2:=hn
  match xs,hn with
  |[x0,x1],_=>
   obtain⟨s0,e0,e0',_⟩:=Z5k Tryz.underlying9 f0;obtain⟨s1,e1,e1',_⟩:=Z5k Tryz.underlying9 f1;simp at e0 e1;subst e0;subst e1;refine⟨s0.data.toList,s1.data.toList,by rw[<-xE,<-xE],?_⟩;simp[e0',e1']
theorem n7 {H:Type} {enc:TypeId×Value->H} {w:World} {base:Nat} {spare:Nat->Bool} {held:Bool} {m:Nat} {φ:Ph}:∀ (xs:List (DataW H×List MemPlace)) (cs:List Value),cs.length=xs.length*2->(∀ i,i<xs.length->DataW.trod enc Tryz.prog w base spare held m 293 ((cs.drop (i*2)).take 2)=xs[i]?)->
 All2 (Sr φ) (yZ (xs.map (·.1))) cs
 |[],[],_,_=>trivial
 |[],_::_,h,_=>by simp at h
 |x::xs,[],h,_=>by simp at h
 |x::xs,[_],h,_=>by simp at h;omega
 |x::xs,c0::c1::cs,h,hf=>by
  have h0:=hf 0 an;simp at h0;obtain⟨a,b,e,ex⟩:=zA h0;simp only[Z4s,and_true] at e;obtain⟨rfl,rfl⟩:=e
  have ih:=n7 (φ:=φ) xs cs (by simp at h;omega) (λi hi=>by
   have:=hf (i+1) (by simp;omega);rw[show (i+1)*2=(i*2)+1+1 by omega] at this
   simpa using this)
  simp only[Z13,ex,yZ];exact⟨rfl,rfl,ih⟩
theorem vH {enc:TypeId×Value->H} {base:Nat} {spare:Nat->Bool} {held:Bool} {fuel:Nat} {t N:Nat} {cs:List Value} {d:DataW H} (ht:Tryz.prog.underlying t=some (.array N 293)) (hc:Tryz.prog.cellsOf t=N*2) (h:DataW.trod enc Tryz.prog w base spare held fuel t cs=some (d,p)) (φ:Ph):
 ∃ ds,d=.agg ds/\All2 (Sr φ) (yZ ds) cs:=by
 obtain⟨xs,m,rfl,hx,hlen,hn,hf⟩:=DataW.trod_array ht h;simp only[Z0j] at hx;refine⟨_,hx.1,n7 (enc:=enc) (w:=w) (base:=base) (spare:=spare) (held:=held) (m:=m) xs cs (by rw[hlen,hc,hn]) (λi hi=>?_)⟩;have:=hf i aa
 rwa [qv] at this
def zW (W:World):Nat->Option (List Value):=λb=>match W.heap[b]? with|some (.cells a _ _)=>some a.toList|_=>none
def IQ (W:World):Ph:=⟨λ_=>none,zW W⟩
theorem BF {W:World} (h:GzOK (zW W)):Ab.Good (IQ W) [] W:=by
 refine⟨λi bl hi=>(by cases hi),λi j bl bl' b b' hi=>(by cases hi),λb l hb=>⟨?_,λhw=>?_⟩,h⟩
 ·have hb:zW W b=some l:=hb
  unfold zW at hb;split at hb
  ·rename_i a ty fr he;cases hb;exact⟨ty,fr,by simpa using he⟩
  ·cases hb
 ·obtain⟨i,bl,c,hi,_⟩:=hw;cases hi
theorem Jo:∀ i bl,lk ([]:Hp) i=some bl->bl.ro=true:=λi bl h=>by cases h
theorem sn {W:World} {b o:Nat} (h:W.cell? ⟨b,o,none⟩=some v):∃ vs,zW W b=some vs/\vs[o]? =some v:=by
 unfold World.cell? at h;split at h
 ·rename_i arr ty fr hb
  refine⟨arr.toList,by unfold zW;rw[hb],?_⟩
  simpa using h
 ·cases h
instance:Inhabited Nd:=⟨dN⟩
theorem yP (b off k:Nat):(⟨b,off,none⟩:Addr).add k=⟨b,off+k,none⟩:=by
 unfold Addr.add;split
 ·rename_i h;subst h;rfl
 ·rfl
theorem Il:Tryz.prog.cellsOf 3=1:=by kernel_rfl
theorem In:Tryz.prog.bytesOf 3=8:=by kernel_rfl
section
variable {H:Type} {enc:TypeId×Value->H} {W:World} {base:Nat} {held:Bool}
theorem lE {r:Reach} {b0:Nat} {d:DataW H} (hv:Value.okWide Tryz.prog W r b0 22 v) (h:DataW.Trod enc Tryz.prog W base (λ_=>true) held 22 v d p) (hw:(d.weights Tryz.prog 22).all (·<=reachBytes)=true):
 ∃ l:List Int,Vr (IQ W) (.s (mC l)) v/\l.length<=20000000000000:=by
 obtain⟨a0,len0,cap0,rfl⟩:=okWide_slice Tryz.underlying22 hv;obtain⟨fuel,hf⟩:=h
 rcases Go.Deep.open_slice1 Tryz.underlying22 Il hf with ⟨hcs,_⟩|⟨a,len,cap,m,n,V,D,Pl,hcs,_,hl,_,hm,hd,hx⟩
 ·simp[Value.cells] at hcs
  obtain⟨rfl,rfl,rfl⟩:=hcs;exact⟨[],.nil _ _ _ _ (λ_=>rfl),an⟩
 ·simp[Value.cells] at hcs
  obtain⟨rfl,rfl,rfl⟩:=hcs;simp only[if_true] at hm;subst hm
  have hcap:m<=20000000000000:=by
   have e:d=.slice ((List.range len0).map D) ((List.range (m-len0)).map λj=>D (len0+j)):=congrArg Prod.fst hd;rw[e] at hw;unfold DataW.weights at hw;rw[Tryz.underlying22] at hw;simp only[Z1b,Z07,decide_eq_true_eq,Z0z,Z2e,In] at hw;have:=hw.1;unfold reachBytes at this;omega
  have each:∀ i,i<m->∃ z:Int,W.cell? (a.add i)=some (.int .i64 z):=by
   intro i hi;obtain⟨h1,h2⟩:=hx i hi;obtain⟨z,e1,_,w1⟩:=Z4e Tryz.underlying3 h2;simp only[Z4s,and_true] at e1;exact⟨z,by rw[h1,e1]⟩
  obtain⟨f,hfq⟩:=Go.Deep.choose_lt each;refine⟨(List.range len0).map f,?_,by simp;omega⟩;unfold mC;rw[show ((List.range len0).map f).length=len0 by simp];by_cases h0:len0=0
  ·subst h0
   exact .nil _ _ _ _ (λe=>by cases e)
  obtain⟨b,off,spot⟩:=a
  have hspot:spot=none:=by simpa [Addr.add] using World.cell?_spot (hfq 0 aa)
  subst hspot
  have hc:∀ i,i<m->W.cell? ⟨b,off+i,none⟩=some (.int .i64 (f i)):=λi hi=>by
   have:=hfq i hi
   rwa [yP] at this
  obtain⟨vs,hz,_⟩:=sn (hc 0 aa);refine .frz _ 1 len0 b off m vs hz hl (λi _=> .int .i64 (f i)) (λ_ _=>rfl) (λi j x hi hj=>?_) (λi j x hi hj=>?_)
  ·cases j with
   |succ j=>simp at hj
   |zero=>
    obtain⟨vs',hz',h3⟩:=sn (hc i aa);rw[hz] at hz';cases hz';rw[Z1p,Z0p];exact h3
  ·cases j with
   |succ j=>simp at hj
   |zero=>
    simp only[Z11,Z06] at hj;subst hj;rw[show ((List.range len0).map f).getD i 0=f i by rw[Z00,Z0t,Z26 hi];rfl];exact .int _ _
end
end
section
variable {W:World}
theorem row0:(((begin Tryz.prog (λ_ _=>0) default).world.heap[1]?).bind Obj.row?).map (·.2)=some 301:=by kernel_rfl
theorem gty0:(Tryz.prog.globals[1]?).map (·.type)=some 301:=by kernel_rfl
theorem gcl0:Tryz.prog.cellsOf 301=12*2:=by kernel_rfl
theorem row1:(((begin Tryz.prog (λ_ _=>0) default).world.heap[2]?).bind Obj.row?).map (·.2)=some 302:=by kernel_rfl
theorem gty1:(Tryz.prog.globals[2]?).map (·.type)=some 302:=by kernel_rfl
theorem gcl1:Tryz.prog.cellsOf 302=13*2:=by kernel_rfl
theorem row2:(((begin Tryz.prog (λ_ _=>0) default).world.heap[3]?).bind Obj.row?).map (·.2)=some 303:=by kernel_rfl
theorem gty2:(Tryz.prog.globals[3]?).map (·.type)=some 303:=by kernel_rfl
theorem gcl2:Tryz.prog.cellsOf 303=29*2:=by kernel_rfl
theorem zR (hS:W.ShapedOpen Tryz.prog) {g t:Nat} (hg:g<6) (hr:(((begin Tryz.prog (λ_ _=>0) default).world.heap[g]?).bind Obj.row?).map (·.2)=some t):∃ cs,W.heap[g]? =some (.cells cs t (0,0)):=by
 cases hq:((begin Tryz.prog (λ_ _=>0) default).world.heap[g]?).bind Obj.row? with
 |none=>rw[hq] at hr;cases hr
 |some x=>
  obtain⟨z,t'⟩:=x;rw[hq] at hr;simp only[Z1j,Z06] at hr;subst hr;obtain⟨cs,h1,_⟩:=hS.1 g z t' (Z3w hg (by decide+kernel)) hq;exact⟨cs,h1⟩
theorem DK {φ:Ph}:∀ {l:List S} {xs:List Value},All2 (Sr φ) l xs->l.all bE=true->All2 (Pr φ.z) l xs
 |[],[],_,_=>trivial
 |[],_::_,h,_=>h.elim
 |_::_,[],h,_=>h.elim
 |a::l,x::xs,h,hp=>by
  rw[Z1b,Z07] at hp;exact⟨h.1.pr hp.1,DK h.2 hp.2⟩
theorem rT (hS:W.ShapedOpen Tryz.prog) {name:String} {i ty N:Nat} {d:DataW Unit} {ds:List (DataW Unit)} {l:List (String×DataW Unit)} {ps:List MemPlace} {cs0:List S} (hv:DataW.LaidVars Tryz.prog W ((name,d)::l) ps) (hi:i<6)
 (hr:(((begin Tryz.prog (λ_ _=>0) default).world.heap[i]?).bind Obj.row?).map (·.2)=some ty) (hn:Tryz.prog.globalNamed name=some i) (ht:(Tryz.prog.globals[i]?).map (·.type)=some ty) (hu:Tryz.prog.underlying ty=some (.array N 293)) (hc:Tryz.prog.cellsOf ty=N*2)
 (hd:d=.agg ds) (h0:yZ ds=cs0) (hp:cs0.all bE=true):∃ vs,zW W i=some vs/\All2 (Pr (zW W)) cs0 vs:=by
 obtain⟨g,t,cs,fuel,p,q,h1,h2,h3,h4,_⟩:=hv;rw[hn] at h1;cases h1;rw[ht] at h2;cases h2;obtain⟨cs',h5⟩:=zR hS hi hr
 have:cs=cs':=by
  simp only[World.var?,hn,Option.bind_some,h5,Z06] at h3;exact h3.symm
 subst this;obtain⟨ds',e,hall⟩:=vH hu hc h4 (IQ W);rw[hd] at e;cases e;refine⟨cs.toList,by unfold zW;rw[h5],?_⟩;rw[h0] at hall;exact DK (φ:=IQ W) hall hp
theorem wA (hS:W.ShapedOpen Tryz.prog) (hL:laidMet Tryz.prog Rows.namespacePathsUniqueRow.laid W):GzOK (zW W):=by
 obtain⟨ps,hv,_⟩:=hL;obtain⟨_,_,_,_,_,q0,_,_,_,_,hv1,_⟩:=hv;have b0:=rT hS (ty:=301) (N:=12) (cs0:=(GS 1).getD []) hv1 ac row0 (by kernel_rfl) gty0 Tryz.underlying301 gcl0 rfl (by kernel_rfl) (by kernel_rfl);obtain⟨_,_,_,_,_,q1,_,_,_,_,hv2,_⟩:=hv1;have b1:=rT hS (ty:=302) (N:=13) (cs0:=(GS 2).getD []) hv2 ac row1 (by kernel_rfl) gty1 Tryz.underlying302 gcl1 rfl (by kernel_rfl) (by kernel_rfl);obtain⟨_,_,_,_,_,q2,_,_,_,_,hv3,_⟩:=hv2;have b2:=rT hS (ty:=303) (N:=29) (cs0:=(GS 3).getD []) hv3 ac row2 (by kernel_rfl) gty2 Tryz.underlying303 gcl2 rfl (by kernel_rfl) (by kernel_rfl);intro g cs hg
 match g,hg with
 |0,hg=>cases hg
 |1,hg=>rw[hg] at b0;exact b0
 |2,hg=>rw[hg] at b1;exact b1
 |3,hg=>rw[hg] at b2;exact b2
 |g+4,hg=>cases hg
end
theorem Ak {H:Type} {d:DataW H} {l:List (DataW H)} (h:d∈l):Rows.uptoBulk d<=Rows.uptoBulkAll l:=by
 induction l with
 |nil=>cases h
 |cons x r ih=>
  simp only[Rows.uptoBulkAll]
  rcases Z0h.1 h with rfl|e
  ·omega
  ·have:=ih e;omega
theorem Io:Tryz.prog.bytesOf 9=16:=by kernel_rfl
section
variable {H:Type} {enc:TypeId×Value->H} {W:World} {base:Nat} {held:Bool}
theorem n_ {r:Reach} {b0:Nat} {v:Value} {d:DataW H} {p:List MemPlace} (hv:Value.okWide Tryz.prog W r b0 23 v) (h:DataW.Trod enc Tryz.prog W base (λ_=>true) held 23 v d p) (hw:(d.weights Tryz.prog 23).all (·<=reachBytes)=true):
 ∃ l:List By,Vr (IQ W) (.s (aE l)) v/\l.length<=200000000000000/\∀ i,(l.getD i []).length<=Rows.uptoBulk d:=by
 obtain⟨a0,len0,cap0,rfl⟩:=okWide_slice Tryz.underlying23 hv;obtain⟨fuel,hf⟩:=h
 rcases Go.Deep.open_slice1 Tryz.underlying23 Dr hf with ⟨hcs,_⟩|⟨a,len,cap,m,n,V,D,Pl,hcs,_,hl,_,hm,hd,hx⟩
 ·simp[Value.cells] at hcs
  obtain⟨rfl,rfl,rfl⟩:=hcs;exact⟨[],.nil _ _ _ _ (λ_=>rfl),an,λi=>by simp⟩
 ·simp[Value.cells] at hcs
  obtain⟨rfl,rfl,rfl⟩:=hcs;simp only[if_true] at hm;subst hm;have e:d=.slice ((List.range len0).map D) ((List.range (m-len0)).map λj=>D (len0+j)):=congrArg Prod.fst hd
  have hcap:m<=200000000000000:=by
   rw[e] at hw;unfold DataW.weights at hw;rw[Tryz.underlying23] at hw;simp only[Z1b,Z07,decide_eq_true_eq,Z0z,Z2e,Io] at hw;have h1:=hw.1;unfold reachBytes at h1;omega
  have hbk:∀ i,i<len0->Rows.uptoBulk (D i)<=Rows.uptoBulk d:=λi hi=>by
   have h1:=Ak (Z1d.2 ⟨i,Z29.2 hi,rfl⟩:D i∈(List.range len0).map D);rw[e];simp only[Rows.uptoBulk];omega
  have each:∀ i,i<m->∃ s:By,(i<len0->s.length<=Rows.uptoBulk d)/\W.cell? (a.add i)=some (.string ⟨s.toArray⟩):=by
   intro i hi;obtain⟨h1,h2⟩:=hx i hi;obtain⟨s,e1,e2,w1⟩:=Z5k Tryz.underlying9 h2;simp only[Z4s,and_true] at e1;refine⟨s.data.toList,λhi0=>?_,by rw[h1,e1]⟩;have hbi:=hbk i hi0;rw[show D i=_ from congrArg Prod.fst e2] at hbi;simp only[Rows.uptoBulk] at hbi;omega
  obtain⟨f,hfq⟩:=Go.Deep.choose_lt each
  have hget:∀ i,i<len0->((List.range len0).map f).getD i []=f i:=λi hi=>by
   rw[Z00,Z0t,Z26 hi];rfl
  refine⟨(List.range len0).map f,?_,by simp;omega,λi=>?_⟩
  ·unfold aE
   rw[show ((List.range len0).map f).length=len0 by simp];by_cases h0:len0=0
   ·subst h0
    exact .nil _ _ _ _ (λe=>by cases e)
   obtain⟨b,off,spot⟩:=a
   have hspot:spot=none:=by simpa [Addr.add] using World.cell?_spot ((hfq 0 aa).2)
   subst hspot
   have hc:∀ i,i<m->W.cell? ⟨b,off+i,none⟩=some (.string ⟨(f i).toArray⟩):=λi hi=>by
    have:=(hfq i hi).2
    rwa [yP] at this
   obtain⟨vs,hz,_⟩:=sn (hc 0 aa);refine .frz _ 1 len0 b off m vs hz hl (λi _=> .string ⟨(f i).toArray⟩) (λ_ _=>rfl) (λi j x hi hj=>?_) (λi j x hi hj=>?_)
   ·cases j with
    |succ j=>simp at hj
    |zero=>
     obtain⟨vs',hz',h3⟩:=sn (hc i aa);rw[hz] at hz';cases hz';rw[Z1p,Z0p];exact h3
   ·cases j with
    |succ j=>simp at hj
    |zero=>
     simp only[Z11,Z06] at hj;subst hj;rw[hget i hi];exact .str _
  ·by_cases hi:i<len0
   ·rw[hget i hi];exact (hfq i aa).1 hi
   ·rw[Z00,Z0b (by simp;omega)];exact Z08 _
end
end Go.Proofs.YtegjgpldfgjoiaaGreatDoor
namespace Go.Proofs.YtegjgpldfgjoiaaGreatDoor
open Go Ab
set_option maxRecDepth 100000
set_option maxHeartbeats 40000000
theorem OpL.fz {P:Program} {o:Oper} {env:List V} {n n':Nat} {M L:Hp} {i g N:Nat} {bl:Bl} (get:Nat->List S) (sz:Nat) (h:OpL P o env n M (.s (.sla i g N)) n' L) (hl:lk L i=some bl) (hro:bl.ro=false) (hk:bl.kind=none)
 (hg:∀ k,k<N->(get k).length=sz) (hc:∀ k j x,k<N->(get k)[j]? =some x->bl.cells[k*sz+j]? =some x/\bE x=true):OpL P o env n M (.s (.frz get sz N)) n' (put L i none):=by
 intro φ0 a w0 Q hop hg0 hf;refine Z4v ?_ (h φ0 a w0 Q hop hg0 hf);rintro a' w ⟨φ,y,ea,hv,h2,st,hag⟩;obtain⟨b0,hb0,pre,xs,rest,fr,p1,hp,p2,p3,p4,p5⟩:=h2.hr i bl hl;rw[hk] at p1;simp only[c_] at p1
 let φ':Ph:=⟨φ.f,λx=>if x=b0.1 then some (pre++(xs++rest)) else φ.z x⟩
 have hz0:φ.z b0.1=none:=by
  cases e:φ.z b0.1 with
  |none=>rfl
  |some l=>exact absurd ⟨i,bl,b0,hl,hb0,rfl,hro⟩ (h2.fz b0.1 l e).2
 have zle:∀ x l,φ.z x=some l->φ'.z x=some l:=by
  intro x l hx;simp only[φ'];split
  ·rename_i e;subst e;rw[hz0] at hx;cases hx
  ·exact hx
 have hle:φ.le φ':=⟨λ_ _ h=>h,zle⟩
 have sub:vv (put L i none) L:=by
  intro j bj hj;rw[az] at hj;split at hj
  ·cases hj
  ·exact hj
 have good':Ab.Good φ' (put L i none) w:=by
  refine⟨λj bj hj=>?_,λj j' bj bj' c c' hj hj' hc hc' hcc=>h2.inj j j' bj bj' c c' (sub j bj hj) (sub j' bj' hj') hc hc' hcc,λx l hx=>?_,h2.gz.mono zle⟩
  ·obtain⟨c,hc,hat⟩:=h2.hr j bj (sub j bj hj)
   exact⟨c,hc,hat.mono hle rfl⟩
  ·by_cases e:x=b0.1
   ·subst e
    simp only[φ',if_true,Z06] at hx;subst hx;refine⟨⟨bl.ty,fr,p1⟩,?_⟩;rintro⟨j,bj,c,hj,hc,hcb,hroj⟩;have hj':=sub j bj hj
    rcases h2.inj j i bj bl c b0 hj' hl hc hb0 hcb with rfl|⟨e,_⟩
    ·rw[az,if_pos rfl] at hj;cases hj
    ·rw[e] at hroj;cases hroj
   ·simp only[φ',if_neg e] at hx
    exact⟨(h2.fz x l hx).1,λhw=>(h2.fz x l hx).2 (Wr.sub sub (by obtain⟨j,bj,c,hj⟩:=hw;exact⟨j,bj,c,hj⟩))⟩
 have hval:Vr φ' (.s (.frz get sz N)) y:=by
  obtain⟨b1,kk,hb1,_,e,hmk⟩:=hv;rw[hb0] at hb1;cases hb1;rw[e];refine .frz get sz N b0.1 b0.2 kk (pre++(xs++rest)) (by simp[φ']) hmk (λk j=>xs.getD (k*sz+j) Go.undef) (λk hk=>hg k hk) (λk j x hk hx=>?_) (λk j x hk hx=>?_)
  ·obtain⟨e,_⟩:=hc k j x hk hx
   obtain⟨v,hv,_⟩:=p2.get e
   have hlx:k*sz+j<xs.length:=by
    rcases Z0a (k*sz+j) xs.length with h|h
    ·exact h
    ·simp[Z0b h] at hv
   rw[Z4k b0.2,f_ pre _ hp,Z0x hlx,Z00,hv];rfl
  ·obtain⟨e,hpx⟩:=hc k j x hk hx
   obtain⟨v,hv,hs⟩:=p2.get e;rw[Z00,hv,Z22];exact ((hs.mono (bl.ph_le_self φ)).mono hle).pr hpx
 refine⟨φ',y,ea,hval,good',⟨st.os,st.tape,st.output,st.size,st.keep,λj bl1 d hj=>st.fresh j bl1 d (sub j bl1 hj),λx l hx=>zle x l (st.zle x l hx),λx l hx=>?_⟩,hag⟩;by_cases e:x=b0.1
 ·subst e
  by_cases hlt:b0.1<w0.heap.size
  ·obtain⟨k,bk,c,e1,e2,e3,e4,e5⟩:=st.fresh i bl b0 hl hb0 hlt
   refine .inr (.inr ⟨k,bk,c,e1,e2,e3,?_⟩)
   cases hr:bk.ro with
   |false=>rfl
   |true=>rw[e4 hr] at hro;cases hro
  ·exact .inr (.inl aa)
 ·simp only[φ',if_neg e] at hx
  exact st.zfr x l hx
section
variable {P:Program} {b:Nat} {ops:Array Oper} {d:Bool} {acc:List Row} {os:List Oper} {env:List V} {n:Nat} {L:Hp} {R:Post}
theorem RegX.cpF {α:Type} (g:α->List S) (df:α) (l:List α) {dst:Option Tmp} {x0:Value} {tx:Tmp} {t tx' e:TypeId} {t':TypeId} {pos:String} {af:Array Edge} {gd:Option (Nat×Bool)} {dx:TypeDesc} {inf:TypeInfo} {zs:List S} {w mm:Nat} {c:Option Nat}
 (hx:cv x0=.s (.slc none mm c)) (hd:env.getD tx .undef=.s (.frz (λk=>g (l.getD k df)) w l.length))
 (ht:P.underlying t=some (.slice e)) (htx:P.underlying tx'=some dx) (hdx:gY dx=true) (hi:P.info? e=some inf) (hz:dz P e=some zs) (hsz:inf.size=zs.length) (hw:inf.size=w)
 (hg:∀ a,(g a).length=w) (hp:∀ (a:α) (j:Nat) (x:S),(g a)[j]? =some x->bE x=true) (hbig:l.length*inf.bytes<=140737488355328) (hmax:l.length<=140737488355328)
 (hwant:aY ops env ⟨dst,.call ⟨.builtin .append,#[.const x0,.tmp tx],#[t,tx']⟩,t',pos,af,gd⟩=some true)
 (kk:RegX P ops d (aG d ⟨dst,.call ⟨.builtin .append,#[.const x0,.tmp tx],#[t,tx']⟩,t',pos,af,gd⟩ [] [] acc) os (a_ env dst (.s (.frz (λk=>g (l.getD k df)) w l.length))) (n+2) L R):
 RegX P ops d acc (⟨dst,.call ⟨.builtin .append,#[.const x0,.tmp tx],#[t,tx']⟩,t',pos,af,gd⟩::os) env n L R:=by
 refine RegX.op (foot:=[]) (wr:=[]) hwant ?_ aa kk;subst hw
 rcases Z21 l.length with h0|h0
 ·intro φ a w0 Q hop hg0 hf
  have g1:=hop (.const x0) (by simp[Op.operands,Call.operands]);have g2:=hop (.tmp tx) (by simp[Op.operands,Call.operands])
  replace g1:Vr φ (cv x0) (a.eval (.const x0)):=g1
  rw[hx] at g1
  replace g2:Vr φ (env.getD tx .undef) (a.eval (.tmp tx)):=g2
  rw[hd,h0] at g2;obtain⟨_,_,e1⟩:=g1;obtain⟨ad,k',e2⟩:=lN g2;unfold Oper.wp;rw[xX ht htx hdx hi e1 e2,Z3q,h0];exact⟨φ,.slice none 0 0,rfl,.nil _ _ _ _ (λ_=>rfl),hg0,Stp.refl _ _ _,λ_ _=>rfl⟩
 ·have hfl:=jS g df l
  have hlen:(l.flatMap g).length=l.length*inf.size:=jD hg l
  have pm:∀ x∈l.flatMap g,bE x=true:=λx hx=>by
   obtain⟨a,_,ha⟩:=Z2h.1 hx;obtain⟨j,hj⟩:=List.mem_iff_getElem?.1 ha;exact hp a j x hj
  have hfit:bC {cells:=[],ty:=e,flat:=false} (l.flatMap g)=true:=by
   unfold bC
   refine Z0i.2 λx hx=>?_
   have:=pm x hx
   cases x<;>first|rfl|cases this
  have core:=dL (P:=P) (env:=env) (n:=n) (L:=L) (o:=⟨dst,.call ⟨.builtin .append,#[.const x0,.tmp tx],#[t,tx']⟩,t',pos,af,gd⟩) (d:=.const x0) (x:=.tmp tx) (fl:=false) (bi:=none) (len:=0) (bl:={cells:=[],ty:=e,flat:=false}) (C:=True) (m:=l.length) (m0:=l.length) (xs:=l.flatMap g) (cs:=l.flatMap g) (sy:=true) (r:=l.length) (foot:=[]) (D:=True)
   rfl rfl rfl rfl rfl ht htx hdx hi hz hsz (by show eY P L e inf.size false (cv x0)=_;rw[hx];simp only[eY,hz,Z2c]) (by
    show fE L inf.size l.length (gT (env.getD tx .undef))=_;rw[hd]
    simp only[gT,wkS,fE,Z2n,hfl]) trivial trivial rfl aa an hfit (λ_=>h0) hbig hmax
  refine OpL.conv (λx _=>VLe.refl _) (λj=>rfl) (VLe.refl _) ?_ (OpL.fz (λk=>g (l.getD k df)) inf.size core (i:=n) (by simp only[eR,Z1e,aw];rw[az,if_pos rfl]) rfl rfl (λk _=>hg _) λk j x hk hx=>⟨cF g inf.size df hg hk hx,hp _ _ _ hx⟩);intro j bl' hj;have hj:lk (res [] L) j=some bl':=hj;simp[res,lk] at hj
end
abbrev jX (G:List (Nat×Nat)):Bool:=G.all λd=>decide (d.2=6)
theorem J1 (p:List Nd) (G:List (Nat×Nat)) (hG:G.length<=1000000000) (hck:FC Tryz.prog 23 [al p] 0 [] (mP G) 0 []):FC Tryz.prog 82 [al p] 0 [] (bV (jX G)) 0 []:=by
 refine wW Tryz.func82 ?_;generalize hR:jX G=R
 repeat'(first|exact y0|refine y1 ?_|refine y2 ?_ ?_|refine y4 λh=>?_|refine wX 23 (pu hck ?_)|refine y3 ?_|exact y5|fail)
 refine Ex.inv (σ:=Nat) (λj=>[(4,nI j)]) (λ_=>[]) (λj=>j<=G.length/\jX (G.drop j)=R) (λj=>G.length-j) 0 rfl (λ_=>rfl) ⟨Z08 _,hR⟩ aV trivial ?_;rintro j ⟨hj,hI⟩;by_cases h:j<G.length
 ·have hd:G.drop j=G.getD j (0,0)::G.drop (j+1):=by
   rw[Z0k h,Z00,Z01 h];rfl
  rw[hd,jX,Z1b] at hI;by_cases ho:(G.getD j (0,0)).2=6
  ·rw[decide_eq_true ho,Z1r] at hI
   repeat'(first|exact y0|refine y1 ?_|refine y2 ?_ ?_|refine y4 λh=>?_|refine y3 ?_|exact y5|fail)
   all_goals try exact y7
   exact LoopR.same (j+1) ⟨aa,hI⟩ aa rfl aV trivial rfl rfl ac
  ·rw[decide_eq_false ho,Z2c] at hI
   subst hI
   repeat'(first|exact y0|refine y1 ?_|refine y2 ?_ ?_|refine y4 λh=>?_|refine Fin.bool (.inl rfl) rfl ?_|refine y3 ?_|exact y5|fail)
   all_goals rfl
 ·rw[Z10 aa] at hI
  subst hI
  repeat'(first|exact y0|refine y1 ?_|refine y2 ?_ ?_|refine y4 λh=>?_|refine Fin.bool (.inl rfl) rfl ?_|refine y3 ?_|exact y5|fail)
  all_goals rfl
section
variable {i:Nat}
section
variable {p:List Nd} {t:Fo} {cs:List (Bool×Int)}
theorem ow (ha:t.At p 0) (hv:t.V cs) (hi:i<t.size) (hop:(p.getD i dN).op=14):
 (t.kid 0 i).size=5+(ak (t.kid 0 i)).size/\∀ j,i<j->j<i+1+(t.kid 0 i).size->(aC t j).me=(i:Int):=by
 obtain⟨h0,h1,h2,h3,_⟩:=bL ha hv hi (by rw[hop];decide);rw[hop,fK] at h2;have hk:=eu (c':=83) [115,105,105,105] (t.kid 0 i) ac h2;refine⟨by have:=hk.1;simp at this;omega,λj hj1 hj2=>?_⟩;have hq:(t.kid 0 i).all quiet:=eC h2 ac;have:=(cl ha (Z08 i) aa hj1 hj2 ini).2;show (bf t 0 j ini).me=_;rw[this,wU h1 hq hj1 hj2];unfold bc;rw[if_pos hop]
theorem xx (ha:t.At p 0) (hv:t.V cs) (hi:i<t.size) (hop:(p.getD i dN).op=16):
 (t.kid 0 i).size=4+(ak (t.kid 0 i)).size/\t.kid 0 (i+4)=ak (t.kid 0 i)/\(aC t (i+4)).pa=(i:Int)/\∀ e∈(ak (t.kid 0 i)).starts (i+5),(aC t e).pa=((i+4:Nat):Int):=by
 obtain⟨h0,h1,h2,h3,_⟩:=bL ha hv hi (by rw[hop];decide);rw[hop,uj] at h2;have hk:=eu (c':=70) [110,105,105] (t.kid 0 i) ac h2;obtain⟨k1,k2⟩:=hk.2 (i+1);have e4:i+1+[110,105,105].length=i+4:=an;rw[show (i+1+([110,105,105]:List Int).length)=i+4 by simp] at k1 k2
 have hs:(t.kid 0 i).size=4+(ak (t.kid 0 i)).size:=by have:=hk.1;simp at this;omega
 have kk:=cl ha (Z08 i) aa (show i<i+4 by omega) aa ini
 have c4:aC t (i+4)=bc (p.getD i dN) (ao (t.kid 0 i)) i (aC t i):=by
  show bf t 0 (i+4) ini=_;rw[kk.2,fu k1]
 have t4:t.kid 0 (i+4)=ak (t.kid 0 i):=by rw[kk.1,k2]
 have hle:=bm (t:=t) (Z08 i) aa;refine⟨hs,t4,by rw[c4];rfl,λe he=>?_⟩;have hr:=bD he;have ke:=cl ha (Z08 (i+4)) aa (show i+4<e by omega) (by rw[t4];omega) ini;show (bf t 0 e ini).pa=_;rw[ke.2,t4,fu he];rfl
def pE (t:Fo) (d:Nat×Nat):Int:=if d.2<=6 then (d.1:Int) else if d.2=7 then (aC t (aC t d.1).pa.toNat).pa else (aC t d.1).me
theorem zE (ha:t.At p 0) (hv:t.V cs) (F:List (By×Nat)) (T:List Pth) (hi:i<t.size):(gE p F T t i).Nodup/\∀ d∈gE p F T t i,4<=d.2/\pE t d=(i:Int):=by
 have key:(fG p F (T.getD i z0) (t.kid 0 i) i []).Nodup/\∀ d∈fG p F (T.getD i z0) (t.kid 0 i) i [],5<=d.2/\pE t d=(i:Int):=by
  have one:∀ c,5<=c->c<=6->([(i,c)]:Dgs).Nodup/\∀ d∈([(i,c)]:Dgs),5<=d.2/\pE t d=(i:Int):=λc h5 h6=>by
   refine⟨an,λd hd=>?_⟩;simp at hd;subst hd;exact⟨h5,by unfold pE;rw[if_pos h6]⟩
  have none':([]:Dgs).Nodup/\∀ d∈([]:Dgs),5<=d.2/\pE t d=(i:Int):=⟨Z5b,λd h=>by cases h⟩
  unfold fG;split
  ·split
   ·exact one 5 ac ac
   ·exact none'
  ·split
   ·rename_i hop
    obtain⟨u1,u2,u3,u4⟩:=xx ha hv hi hop;unfold gu;split
    ·exact one 6 ac ac
    ·split
     ·exact none'
     ·refine⟨(jJ _ _ _ _ _ _).1,λd hd=>?_⟩
      obtain⟨c1,c2⟩:=iw _ _ _ _ _ _ d hd;refine⟨aa,?_⟩;unfold pE;rw[if_neg aa,if_pos c1,u4 _ c2,Z12,u3]
   ·split
    ·split
     ·exact one 6 ac ac
     ·exact none'
    ·split
     ·rename_i hop
      obtain⟨u1,u2⟩:=ow ha hv hi hop;unfold lG;rw[aW];have hA:=vh p (ai p (i+2)) ((ak (t.kid 0 i)).size+1) (i+5);have hS:=fC false (ak (t.kid 0 i)) (i+6) false true;have cA:=qy p (ai p (i+2)) ((ak (t.kid 0 i)).size+1) (i+5);have cS:=cz false (ak (t.kid 0 i)) (i+6) false true;refine⟨Z3p.2 ⟨hA.1,hS.1,λa h1 b h2 e=>?_⟩,λd hd=>?_⟩
      ·have:=cA a h1
       have:=cS b h2;rw[e] at*;omega
      ·have hr:i<d.1/\d.1<i+1+(t.kid 0 i).size/\7<d.2:=by
        rcases Z0w.1 hd with h|h
        ·have:=hA.2 d h;have:=cA d h;omega
        ·have:=hS.2 d h;have:=cS d h;omega
       refine⟨aa,?_⟩;unfold pE;rw[if_neg aa,if_neg aa];exact u2 d.1 hr.1 hr.2.1
     ·exact none'
 unfold gE;split
 ·refine⟨Z3p.2 ⟨an,key.1,λa h1 b h2 e=>?_⟩,λd hd=>?_⟩
  ·simp at h1
   have:=(key.2 b h2).1;rw[<-e,h1] at this;omega
  ·rcases Z0w.1 hd with h|h
   ·simp at h;subst h
    exact⟨Z02 _,by unfold pE;rw[if_pos (show (4:Nat)<=6 by decide)]⟩
   ·have:=key.2 d h;exact⟨aa,this.2⟩
 ·rw[Z1e]
  exact⟨key.1,λd h=>⟨by have:=(key.2 d h).1;omega,(key.2 d h).2⟩⟩
end
theorem oQ {f:Nat->Dgs} {own:Nat×Nat->Int}:∀ {l:List Nat},l.Nodup->(∀ i∈l,(f i).Nodup/\∀ d∈f i,own d=(i:Int))->(l.flatMap f).Nodup
 |[],_,_=>Z5b
 |i::l,hl,h=>by
  rw[Z0g];rw[Z4r] at hl;refine Z3p.2 ⟨(h i (Z17 ..)).1,oQ hl.2 λj hj=>h j (Z0y _ hj),λa h1 b h2 e=>?_⟩;obtain⟨j,hj,hb⟩:=Z2h.1 h2;have e1:=(h i (Z17 ..)).2 a h1;have e2:=(h j (Z0y _ hj)).2 b hb;rw[e,e2] at e1;have:j=i:=aa;subst this;exact hl.1 hj
theorem Fz (x:Nd) (nm:Pth) (i:Nat) (sc:Pth) (s:St):∃ E,(bO x nm i sc s).2.G=s.G++E/\Inn i (i+1) E/\∀ d∈E,d.2=2\/d.2=3:=by
 have hn:∃ E,s.G=s.G++E/\Inn i (i+1) E/\∀ d∈E,d.2=2\/d.2=3:=⟨[],an,Inn.nil _ _,λd h=>by cases h⟩
 have h2:∃ E,s.G++[(i,2)]=s.G++E/\Inn i (i+1) E/\∀ d∈E,d.2=2\/d.2=3:=⟨[(i,2)],rfl,Inn.one _ _,λd h=>by simp at h;rw[h];exact .inl rfl⟩
 unfold bO;split
 ·split
  ·exact hn
  ·exact h2
 ·split
  ·exact hn
  ·split
   ·simp only[St.dec,St.sc,k8]
    split
    ·exact⟨[(i,3)],rfl,Inn.one _ _,λd h=>by simp at h;rw[h];exact .inr rfl⟩
    ·exact hn
   ·exact h2
theorem jn:∀ (m:Bool) (t:Fo) (i:Nat) (sc:Pth) (s:St),∃ E,(aQ m t i sc s).G=s.G++E/\Inn i (i+t.size) E/\∀ d∈E,d.2=2\/d.2=3
 |true,.nil,i,_,s=>⟨[],by simp[aQ],Inn.nil _ _,λd h=>by cases h⟩
 |false,.nil,i,_,s=>⟨[],by simp[aQ],Inn.nil _ _,λd h=>by cases h⟩
 |true,.cons x k n,i,sc,s=>by
  simp only[aQ,Fo.size];split
  ·obtain⟨E,h1,h2,h3⟩:=jn false k (i+1) sc s
   exact⟨E,h1,h2.mono aa aa,h3⟩
  ·obtain⟨E,h1,h2,h3⟩:=jn true n (i+1+k.size) sc s
   exact⟨E,h1,h2.mono aa aa,h3⟩
 |false,.cons x k n,i,sc,s=>by
  simp only[aQ,Fo.size];obtain⟨E0,a1,a2,a3⟩:=Fz x (ao k) i sc s;split
  ·obtain⟨E1,b1,b2,b3⟩:=jn true k (i+1) (bO x (ao k) i sc s).1 (bO x (ao k) i sc s).2
   obtain⟨E2,c1,c2,c3⟩:=jn false n (i+1+k.size) sc (aQ true k (i+1) (bO x (ao k) i sc s).1 (bO x (ao k) i sc s).2);refine⟨E0++E1++E2,by rw[c1,b1,a1];simp only[Z14],Inn.app (Inn.app a2 b2 aa aa) (c2.mono (Z02 _) aa) aa aa,λd hd=>?_⟩;simp only[Z0w] at hd
   rcases hd with (h|h)|h
   ·exact a3 d h
   ·exact b3 d h
   ·exact c3 d h
  ·obtain⟨E2,c1,c2,c3⟩:=jn false n (i+1+k.size) sc (bO x (ao k) i sc s).2
   refine⟨E0++E2,by rw[c1,a1];simp only[Z14],Inn.app a2 (c2.mono aa aa) aa aa,λd hd=>?_⟩
   rcases Z0w.1 hd with h|h
   ·exact a3 d h
   ·exact c3 d h
def jA (p:List Nd) (t:Fo):Dgs:=kx p (anS p t).F (anS p t).S t p.length 0 (anS p t).G
theorem xe {p:List Nd} {t:Fo} {cs:List (Bool×Int)} (ha:t.At p 0) (hv:t.V cs) (hs:t.size=p.length):(jA p t).Nodup:=by
 unfold jA;rw[iD];obtain⟨E,h1,h2,h3⟩:=jn false t 0 ⟨true,0,[]⟩ (sU p)
 have hG:(anS p t).G=E:=by
  show (aQ false t 0 ⟨true,0,[]⟩ (sU p)).G=E;rw[h1];rfl
 rw[hG]
 have hrow:∀ i∈List.range' 0 p.length,(gE p (anS p t).F (anS p t).S t i).Nodup/\∀ d∈gE p (anS p t).F (anS p t).S t i,4<=d.2/\pE t d=(i:Int):=λi hi=>by
  have:=Z20.1 hi;exact zE ha hv _ _ aa
 refine Z3p.2 ⟨h2.1,oQ (own:=pE t) List.nodup_range' λi hi=>⟨(hrow i hi).1,λd hd=>((hrow i hi).2 d hd).2⟩,λa h4 b h5 e=>?_⟩;obtain⟨i,hi,hb⟩:=Z2h.1 h5;have:=h3 a h4;have:=((hrow i hi).2 b hb).1;rw[e] at*;omega
def dlt (x y:Nat×Nat):Prop:=x.1<y.1\/x.1=y.1/\x.2<y.2
theorem pX (G:Dgs):(d_ G).Perm G:=Z57 G _
theorem EA (G:Dgs) (h:G.Nodup):(d_ G).Pairwise dlt:=by
 have h1:(d_ G).Pairwise λx y=>(!(ltOf FT) y x)=true:=by
  refine List.pairwise_mergeSort (λa b c h1 h2=>?_) (λa b=>?_) G
  ·simp only[Z0v] at h1 h2 |-
   rw[gZ] at h1 h2 |-;omega
  ·simp only[Z1h,Z0v]
   rw[gZ,gZ];omega
 have h2:(d_ G).Nodup:=(pX G).nodup_iff.2 h
 refine (h1.and h2).imp λ{a b} hab=>?_
 obtain⟨g1,g2⟩:=hab;simp only[Z0v] at g1;rw[gZ] at g1;unfold dlt
 rcases Z0a a.1 b.1 with h|h
 ·exact .inl h
 ·have e1:a.1=b.1:=aa
  rcases Z0a a.2 b.2 with h'|h'
  ·exact .inr ⟨e1,h'⟩
  ·exact absurd (Prod.ext e1 aa) g2
end
abbrev nmB (g:Nat) (l:List Int):Option Bl:=eI 3 (g+1) 1 (l.map λz=> .int .i64 z)
abbrev I_ (O:List Ro) (nt nl:Nat) (nx nh:Int) (l:List Int):Hp:=[(0,some (zj O.length nt nl nx nh)),(1,some (GG O)),(7,nmB 7 l)]
theorem Jl {O:List Ro} {nt nl:Nat} {nx nh:Int} {l:List Int}:eV 9 (I_ O nt nl nx nh l)=true:=by
 unfold I_ nmB;generalize List.map (λz=>S.int IntKind.i64 z) l=cg
 cases cg<;>rfl
theorem HK (O:List Ro) (nt nl:Nat) (nx nh:Int) (hO:O.length<=100000):FC Tryz.prog 15 [.s (.ptr (some (0,0)))] 7 (Bf O nt nl nx nh) (.s (.row 7 8 O.length)) 9 (I_ O nt nl nx nh (O.map (·.1))):=by
 have hsz:(Tryz.prog.types[88]).size=6:=by kernel_rfl
 have hs1:(Tryz.prog.types[3]).size=1:=by kernel_rfl
 have hb1:(Tryz.prog.types[3]).bytes=8:=by kernel_rfl
 refine wW Tryz.func15 ?_
 repeat'(first|exact y0|refine y1 ?_|refine y2 ?_ ?_|refine y4 λh=>?_|refine y3 ?_|exact y5|fail)
 refine Ex.set 3 (.s (.row 7 8 0)) (VLe.s SLe.nilrow) rfl (Ex.upN (n':=9) ac ?_);refine Ex.inv (σ:=Nat) (λj=>[(3,.s (.row 7 8 j)),(4,nI j)]) (λj=>I_ O nt nl nx nh ((O.take j).map (·.1))) (λj=>j<=O.length) (λj=>O.length-j) 0 rfl (λ_=>rfl) (Z08 _) aV ⟨rfl,rfl,trivial⟩ ?_;rintro j hj;by_cases h:j<O.length
 ·have h':=h
  have hi:(O.flatMap mW)[j*6+0]? =some (.int .i64 (O.getD j dO).1):=rm h rfl
  repeat'(first|exact y0|refine y1 ?_|refine y2 ?_ ?_|refine y4 λh=>?_|refine RegX.ldS [.val (nI (O.getD j dO).1)] rfl rfl (by rw[hsz,am,am,aB,Z0c];exact fJ rfl hi) rfl ?_|refine RegX.apr (i:=7) (g:=8) (m:=j) (w:=1) (cs:=((O.take j).map (·.1)).map λz=> .int .i64 z) (foot:=[9]) (k:=1) (add:=[.int .i64 (O.getD j dO).1]) rfl rfl (by simp;omega) rfl rfl rfl rfl rfl rfl rfl hs1 ac rfl ⟨Z02 _,rfl⟩ ac an rfl (by rw[hb1];omega) aa rfl ?_|refine y3 ?_|exact y5|fail)
  have hT:(O.take (j+1)).map (·.1)=(O.take j).map (·.1)++[(O.getD j dO).1]:=by
   rw[<-List.take_append_getElem h',Z0d,Z00,Z01 h'];rfl
  refine LoopR.move (j+1) (by show j+1<=O.length;omega) (by show O.length-(j+1)<O.length-j;omega) [0,1,2,3,4,5,6,10,11] rfl ?_ ?_ ?_
  ·repeat' (first|exact VLe.refl _|exact VLe.any _|exact Z0o|refine⟨?_,?_⟩)
  ·refine⟨rfl,rfl,MemP.op ?_ trivial⟩
   rw[hT,Z0d];rfl
  ·unfold I_ nmB
   generalize List.map (λz=>S.int IntKind.i64 z) _=cg
   cases cg<;>rfl
 ·obtain rfl:j=O.length:=aa
  rw[Z1v]
  repeat'(first|exact y0|refine y1 ?_|refine y2 ?_ ?_|refine y4 λh=>?_|refine y3 ?_|exact y5|fail)
  exact⟨.inl rfl,.s (.row 7 8 O.length),[7,8],VLe.refl _,EndOK.by rfl ⟨rfl,rfl,MemP.op rfl trivial⟩ rfl Jl rfl rfl⟩
end Go.Proofs.YtegjgpldfgjoiaaGreatDoor
