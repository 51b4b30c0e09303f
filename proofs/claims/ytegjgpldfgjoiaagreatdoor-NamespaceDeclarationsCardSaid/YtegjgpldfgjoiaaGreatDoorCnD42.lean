import Derived.Test.YtegjgpldfgjoiaaGreatDoorCnD34
import Derived.Test.YtegjgpldfgjoiaaGreatDoorCnD40
set_option linter.all false
set_option maxHeartbeats 40000000
set_option maxRecDepth 100000
namespace Go.Proofs.YtegjgpldfgjoiaaGreatDoor
open Go Ab
section
variable {E E':List Ent} {i:Nat} {sc q:Pth} {fs:List Fd}
structure PrO (p:List Nd):Prop where
 hp:p.length<=2048
 hw:mG p
 hI:re p
 hO:∀ j,j<p.length->aJ p j=false
 hN:∀ j,j<p.length->kK p j
structure FdOK (p:List Nd) (m N:Nat) (d:Fd):Prop where
 node:∃ i:Nat,d.node=i/\i+3<p.length/\((p.getD i dN).op≠16->1<=ai p (i+3)/\ai p (i+3)<=8)
 scope:d.scope.length<9223372036854775807
 units:∀ u∈d.units,(m:Int)<=u/\u<N
 len:d.units.length<=2048
 b0:0<=d.bits
 b1:d.bits<=20000000000
theorem FdOK.mono {p:List Nd} {m N N':Nat} {d:Fd} (h:FdOK p m N d) (hN:N<=N'):FdOK p m N' d:=
 ⟨h.node,h.scope,λu hu=>by have:=h.units u hu;omega,h.len,h.b0,h.b1⟩
def BitO (E:List Ent):Prop:=∀ k,(E.getD k eZ).bit<=1099511627776
theorem BitO.push {y:Ent} (h:BitO E) (hy:y.bit<=1099511627776):BitO (E++[y]):=by
 intro k
 rcases Z3g k E.length with e|e|e
 ·rw[Z00,Z0x e,<-Z00];exact h k
 ·grind
 ·rw[Z00,Z0b ae]
  exact (ac:(0:Int)<=1099511627776)
theorem BitO.set {y:Ent} (h:BitO E) (hy:y.bit<=1099511627776) (j:Nat):BitO (E.set j y):=by
 intro k;rw[Z00,Z1i];split
 ·split
  ·exact hy
  ·exact (ac:(0:Int)<=1099511627776)
 ·rw[<-Z00];exact h k
theorem xV (q:Pth):(aH q).length<=500:=by
 unfold aH;split
 ·rename_i h
  obtain⟨h1,h2,h3,_,h5,_⟩:=aG h
  grind [mh]
 ·simp
theorem AT (q:Pth):(aH q).length<9223372036854775807:=by have:=xV q;omega
section
variable {p:List Nd} {num:Int} {m:Nat}
theorem AddOK.gro (hi:i+1<p.length) (h:AddOK p num E i sc E' q):Gro p num m E E':=.add hi h (.refl _)
theorem AddOK.bit (hE:BitO E) (h:AddOK p num E i sc E' q):BitO E':=by
 obtain⟨ab,c,_,_,rfl⟩:=h.up;exact hE.push (ac:(0:Int)<=1099511627776)
def ElG (p:List Nd) (num:Int) (m:Nat) (E:List Ent) (us:List Int) (bits:Int) (s:Nat) (R:List Ent×List Int×Int×Int):Prop:=
 Gro p num m E R.1/\BitO R.1/\(∀ u∈R.2.1,(m:Int)<=u/\u<R.1.length)/\R.2.1.length<=us.length+s/\0<=R.2.2.1/\R.2.2.1<=bits+8388608*s
theorem qC (H:PrO p) (sc:Pth) (wid upd:Int):∀ (kf:Fo) (c:Nat) (E:List Ent) (us:List Int) (bits:Int),kf.At p c->kf.V (List.replicate kf.cnt (false,70))->m<=E.length->BitO E->0<=bits->bits+8388608*kf.size<=20000000000->(∀ u∈us,(m:Int)<=u/\u<E.length)->
 ElG p num m E us bits kf.size (fp p num sc wid upd kf c E us bits)
 | .nil,c,E,us,bits,_,_,hm,hb,h0,h1,hu=>by
   unfold fp;exact⟨.refl _,hb,hu,Z1o _ _,h0,ae⟩
 | .cons x k n,c,E,us,bits,ha,hv,hm,hb,h0,h1,hu=>by
   have hcl:=At.lt ha;have hx:=At.get ha;have hac:=hv.1.1;simp only[Fo.size] at h1
   have hbd:∀ j,0<=ai p j:=λj=>cE H.hI j
   rw[fp];by_cases h19:x.op=19
   ·rw[if_pos h19]
    have hop:(p.getD c dN).op=19:=ae;have hb1:=zN (H.hO c hcl) hop;have hb0:=hbd (c+1);obtain⟨g1,g2,g3,g4,g5,g6⟩:=qC H sc wid upd n (c+1+k.size) E us (bits+ai p (c+1)) ha.2.2.2 hv.2.2 hm hb aa aa hu;exact⟨g1,g2,g3,by simp only[Fo.size];omega,g5,by simp only[Fo.size];omega⟩
   ·rw[if_neg h19]
    have h18:x.op=18:=by rcases EX hac with h|h;exact h;exact absurd h h19
    have hop:(p.getD c dN).op=18:=ae;have hb1:=zO (H.hO c hcl) hop;have hb0:=hbd (c+2);have hn:=(H.hN c hcl).2.2.2.1 (.inr (.inl hop));have hao:=my 0 [] num p H.hp H.hw E c aa sc;generalize bF p num E c sc=A at hao |-;obtain⟨E2,id,q,e⟩:=A;simp only at hao |-
    rcases hao with ⟨rfl,he⟩|⟨rfl,rfl,hA⟩
    ·rw[if_pos he]
     exact⟨.refl _,hb,hu,Z1o _ _,h0,ae⟩
    ·rw[if_neg av]
     have hlA:=hA.len;have hls:= @Z18 _ E2 E.length (zf (E2.getD E.length eZ) bits (ai p (c+2)) wid upd)
     obtain⟨g1,g2,g3,g4,g5,g6⟩:=qC H sc wid upd n (c+1+k.size) (E2.set E.length (zf (E2.getD E.length eZ) bits (ai p (c+2)) wid upd)) (us++[(E.length:Int)]) (bits+ai p (c+2)) ha.2.2.2 hv.2.2 aa
      ((hA.bit hb).set (by show bits<=_;omega) _) aa aa (λu hu'=>by
        rcases Z0w.1 hu' with h|h
        ·have:=hu u h;omega
        ·have:=Z0m.1 h;omega)
     refine⟨.add aa hA (.spec (y:=zf (E2.getD E.length eZ) bits (ai p (c+2)) wid upd) hm aa ⟨rfl,rfl,rfl,rfl,rfl⟩ g1),g2,g3,?_,g5,by simp only[Fo.size];omega⟩
     grind [Fo.size]
def PG (p:List Nd) (m:Nat) (E:List Ent) (fs:List Fd):Prop:=m<=E.length/\BitO E/\∀ d∈fs,FdOK p m E.length d
def DG (p:List Nd) (num:Int) (m:Nat) (E:List Ent) (R:DR):Prop:=Gro p num m E R.1/\BitO R.1/\∀ d∈R.2.1,FdOK p m R.1.length d
theorem DG.refl {e:Int} (h:PG p m E fs):DG p num m E (E,fs,e):=⟨.refl _,h.2.1,h.2.2⟩
theorem DG.pg {R:DR} (hm:m<=E.length) (h:DG p num m E R):PG p m R.1 R.2.1:=⟨Z1z hm h.1.len,h.2.1,h.2.2⟩
theorem DG.trans {R S:DR} (h:DG p num m E R) (k:DG p num m R.1 S):DG p num m E S:=⟨h.1.trans k.1,k.2⟩
theorem PG.add (h:PG p m E fs) (hA:AddOK p num E i sc E' q):PG p m E' fs:=by
 have:=hA.len;exact⟨by have:=h.1;omega,hA.bit h.2.1,λd hd=>(h.2.2 d hd).mono aa⟩
theorem GO {a b:Int} (h:kG a b=false):1<=a/\a<=8:=by
 unfold kG at h
 grind
theorem zT {s:Nat} {R:List Ent×List Int×Int×Int} (h:PG p m E fs) (hR:ElG p num m E [] 0 s R) (hs:s<=2048) (hi:i+3<p.length) (hwd:(p.getD i dN).op≠16->1<=ai p (i+3)/\ai p (i+3)<=8):
 DG p num m E (m6 i sc fs R):=by
 obtain⟨g1,g2,g3,g4,g5,g6⟩:=hR;have hl:=g1.len;simp only[Z0e,Z0c] at g4;refine⟨g1,g2,λd hd=>?_⟩;unfold m6 tc at hd;simp only at hd
 have old:∀ d∈fs,FdOK p m R.1.length d:=λd hd=>(h.2.2 d hd).mono hl
 split at hd
 ·rcases Z0w.1 hd with hd|hd
  ·exact old d hd
  ·have:=Z0m.1 hd
   subst this;exact⟨⟨i,rfl,hi,hwd⟩,AT sc,g3,ae,g5,ae⟩
 ·exact old d hd
theorem nN (H:PrO p):∀ (N:Nat) (t:Fo) (i:Nat) (sc:Pth) (E:List Ent) (fs:List Fd),t.size<=N->t.At p i->t.V (List.replicate t.cnt (false,68))->PG p m E fs->DG p num m E (aY p num false t i sc E fs)
 |_,.nil,i,sc,E,fs,_,_,_,h=>by rw[aY];exact DG.refl h
 |0,.cons x k n,_,_,_,_,hN,_,_,_=>by simp only[Fo.size] at hN;omega
 |N+1,.cons x k n,i,sc,E,fs,hN,ha,hv,h=>by
  simp only[Fo.size] at hN;have hp:=H.hp;have hi:=At.lt ha;have hx:=At.get ha;have hsz:=At.size_le (Z1k hi) ha;simp only[Fo.size] at hsz;have hkV:=hv.2.1;have hkA:=ha.2.2.1;obtain⟨hi1,_⟩:=ly (.inl rfl) ha hv
  have one:DG p num m E (aY p num false (.cons x k .nil) i sc E fs):=by
   rw[qE];unfold gW;by_cases h10:x.op=10
   ·rw[if_pos h10]
    rw[h10,sC] at hkV;obtain⟨bl,hz,hbl⟩:=aO [110] k rfl hkV;obtain⟨hb1,hb2⟩:=hbl p (i+1) hkA;split
    ·exact DG.refl h
    ·split
     ·exact DG.refl h
     ·show DG p num m E (aY p num true k (i+1) _ E fs)
      rw[eu (p:=p) (num:=num) [110] k rfl hkV];simp only[Z0n] at hz;exact nN H N (am k) _ _ E fs aa hb1.2.2.1 hb2.2.1 h
   rw[if_neg h10];by_cases h16:x.op=16
   ·rw[if_pos h16]
    have hop:(p.getD i dN).op=16:=ae;rw[h16,sD] at hkV;obtain⟨bl,hz,hbl⟩:=aO [110,105,105] k rfl hkV;obtain⟨hb1,hb2⟩:=hbl p (i+1) hkA;simp only[Z04,Z0e] at hz;rw[show i+1+([110,105,105]:List Int).length=i+4 from rfl] at hb1
    exact zT h (qC H sc _ _ (am k) (i+4+1) E [] 0 hb1.2.2.1 hb2.2.1 h.1 h.2.1 (Z2l _) aa (λu hu=>by cases hu)) aa ((H.hN i hi).2.2.1 (.inr hop)) λe=>absurd hop e
   rw[if_neg h16];by_cases h17:x.op=17
   ·rw[if_pos h17]
    have hop:(p.getD i dN).op=17:=ae;rw[h17,sw] at hkV;obtain⟨bl,hz,hbl⟩:=aO [110,110,105,105] k rfl hkV;obtain⟨hb1,hb2⟩:=hbl p (i+1) hkA;simp only[Z04,Z0e] at hz;rw[show i+1+([110,110,105,105]:List Int).length=i+5 from rfl] at hb1;have hi4:=(H.hN i hi).2.1 (.inr (.inr hop))
    refine zT h (qC H sc _ _ (am k) (i+5+1) E [] 0 hb1.2.2.1 hb2.2.1 h.1 h.2.1 (Z2l _) aa (λu hu=>by cases hu)) aa aa λ_=>?_
    have ho:=H.hO i hi;unfold aJ at ho;rw[hop] at ho;simp at ho;exact GO ho
   rw[if_neg h17];have hao:=my 0 [] num p H.hp H.hw E i hi1 sc;generalize bF p num E i sc=A at hao |-;obtain⟨E2,id,q,e⟩:=A;simp only at hao |-
   rcases hao with ⟨rfl,he⟩|⟨rfl,rfl,hA⟩
   ·rw[if_pos he];exact DG.refl h
   ·rw[if_neg av]
    have h2:=h.add hA
    have hs:DG p num m E (E2,fs,0):=⟨hA.gro hi1,h2.2.1,h2.2.2⟩
    split
    ·rename_i hb
     rcases hb with hb|hb
     ·rw[hb,sB] at hkV
      obtain⟨bl,hz,hbl⟩:=aO [115] k rfl hkV;obtain⟨hb1,hb2⟩:=hbl p (i+1) hkA;show DG p num m E (aY p num true k (i+1) _ E2 fs);rw[eu (p:=p) (num:=num) [115] k rfl hkV];simp only[Z0n] at hz;exact hs.trans (nN H N (am k) _ _ E2 fs aa hb1.2.2.1 hb2.2.1 h2)
     ·rw[hb,sA] at hkV
      obtain⟨bl,hz,hbl⟩:=aO [115,105,105] k rfl hkV;obtain⟨hb1,hb2⟩:=hbl p (i+1) hkA;show DG p num m E (aY p num true k (i+1) _ E2 fs);rw[eu (p:=p) (num:=num) [115,105,105] k rfl hkV];simp only[Z04,Z0e] at hz;exact hs.trans (nN H N (am k) _ _ E2 fs aa hb1.2.2.1 hb2.2.1 h2)
    ·exact hs
  rw[ti];split
  ·exact one.trans (nN H N n _ sc _ _ aa ha.2.2.2 hv.2.2 (one.pg h.1))
  ·exact one
end
end
section
variable {E:List Ent} {k:Nat}
def RegE (T:List Tb) (E:List Ent):Prop:=∀ k,k<E.length->(E.getD k eZ).op=15->RegAt T (E.getD k eZ) (dJ T (E.getD k eZ) 2) (dJ T (E.getD k eZ) 3) (dJ T (E.getD k eZ) 4)
def zj (p:List Nd) (T:List Tb):List Fd->List Ent->List Int->List Ent×List Int×Int
 |[],E,rs=>(E,rs,0)
 |d::fs,E,rs=>if (jn p T d d.node.toNat E rs).2.2=0 then zj p T fs (jn p T d d.node.toNat E rs).1 (jn p T d d.node.toNat E rs).2.1 else jn p T d d.node.toNat E rs
section
variable {p:List Nd} {num:Int} {m:Nat} {T:List Tb}
theorem AO {α:Type} {l:List α} {y d:α} (h:k<l.length):(l++[y]).getD k d=l.getD k d:=ae
theorem AN {α:Type} {l:List α} {y d:α} {j:Nat} (h:j<l.length):(l.set j y).getD k d=if j=k then y else l.getD k d:=ae
theorem t_ (sp ba ln idx dat:Int):∀ (us:List Int) (E:List Ent),(∀ u∈us,(m:Int)<=u/\u<E.length)->BitO E->Gro p num m E (h_ sp ba ln idx dat us E).1/\BitO (h_ sp ba ln idx dat us E).1/\(h_ sp ba ln idx dat us E).1.length=E.length
 |[],E,_,hb=>⟨.refl _,hb,rfl⟩
 |u::us,E,hu,hb=>by
  have h:=hu u av;rw[h_];split
  ·obtain⟨g1,g2,g3⟩:=t_ sp ba ln idx dat us (E.set u.toNat (yz (E.getD u.toNat eZ) sp ba ln idx dat)) (λv hv=>by grind) (hb.set (y:=yz (E.getD u.toNat eZ) sp ba ln idx dat) (hb u.toNat) _)
   exact⟨.spec (y:=yz (E.getD u.toNat eZ) sp ba ln idx dat) aa aa ⟨rfl,rfl,rfl,rfl,rfl⟩ g1,g2,ae⟩
  ·exact⟨.refl _,hb,rfl⟩
def RefG (N:Nat) (rs:List Int):Prop:=∀ r∈rs,0<=r/\r<(N:Int)
theorem RefG.app {N:Nat} {a b:List Int} (h:RefG N a) (k:RefG N b):RefG N (a++b):=λr hr=>by
 rcases Z0w.1 hr with e|e
 ·exact h r e
 ·exact k r e
theorem RefG.one {N:Nat} (h:k<N):RefG N [(k:Int)]:=λr hr=>by grind
theorem RefG.nat {s:By} {i:Nat} {op:Int} {r:Option Nat} (h:iD p E s i op=r):RefG E.length (oI r):=by
 cases r with
 |none=>intro x hx;cases hx
 |some k=>exact RefG.one (lj h).1
theorem Aa (r:Option Nat):(oI r).length<=1:=by cases r<;>simp[oI]
theorem Fx {d:Fd} {i:Nat} {rs:List Int} (hd:FdOK p m E.length d) (hb:BitO E) (hr:RefG E.length rs):
 (Gro p num m E (jn p T d i E rs).1/\BitO (jn p T d i E rs).1)/\(jn p T d i E rs).1.length=E.length/\RefG E.length (jn p T d i E rs).2.1/\(jn p T d i E rs).2.1.length<=rs.length+2:=by
 unfold jn;split
 ·cases h1:iD p E d.scope (i+1) 15 with
  |none=>exact⟨⟨.refl _,hb⟩,rfl,hr,Z1o _ _⟩
  |some k=>
   obtain⟨g1,g2,g3⟩:=t_ (p:=p) (num:=num) (dJ T (E.getD k eZ) 2) (dJ T (E.getD k eZ) 3) (dJ T (E.getD k eZ) 4) (-1) (-1) d.units E hd.units hb;exact⟨⟨g1,g2⟩,g3,hr.app (RefG.one (lj h1).1),av⟩
 ·cases h1:iD p E d.scope (i+1) 18 with
  |none=>
   refine⟨⟨.refl _,hb⟩,rfl,(hr.app (RefG.nat h1)).app (RefG.nat (r:=iD p E d.scope (i+2) 18) rfl),?_⟩
   grind [Aa]
  |some a=>
   cases h2:iD p E d.scope (i+2) 18 with
   |none=>exact⟨⟨.refl _,hb⟩,rfl,(hr.app (RefG.one (lj h1).1)).app (RefG.nat h2),by simp[oI]⟩
   |some c=>
    obtain⟨g1,g2,g3⟩:=t_ (p:=p) (num:=num) 0 0 ((d.bits+8*ai p (i+3)-1).tdiv (8*ai p (i+3))*ai p (i+3)) a c d.units E hd.units hb;exact⟨⟨g1,g2⟩,g3,(hr.app (RefG.one (lj h1).1)).app (RefG.one (lj h2).1),av⟩
theorem FB {a b c:Int} (h:gV a b c=false):a<=3/\b<=9223372036854775808/\c<=1048576:=by
 unfold gV at h
 grind
theorem RegAt.same {x y:Ent} (h1:x.tab=y.tab) (h2:x.node=y.node) {a b c:Int} (h:RegAt T y a b c):RegAt T x a b c:=by
 obtain⟨⟨j,nd,e1,e2,e3,r⟩,s⟩:=h;exact⟨⟨j,nd,ae,e2,ae,r⟩,‹_›,‹_›,‹_›,‹_›,‹_›,‹_›⟩
theorem kZ {x y:Ent} (h1:x.tab=y.tab) (h2:x.node=y.node) (o:Nat):dJ T x o=dJ T y o:=by unfold dJ;rw[h1,h2]
theorem RegE.gro (H:PrO p) (hT:∃ j:Nat,num=1+(j:Int)/\j<T.length/\(T.getD j tZ).p=p) {E':List Ent} (h:Gro p num m E E') (hE:RegE T E):RegE T E':=by
 induction h with
 |refl=>exact hE
 | @add E0 E1 E2 i sc q hi h _ ih=>
   refine ih ?_;obtain⟨ab,c,_,_,rfl⟩:=h.up;intro k hk ho
   rcases Z0a k E0.length with e|e
   ·rw[AO e] at ho |-
    exact hE k e ho
   ·obtain rfl:k=E0.length:=ae
    have hg:(E0++[dU (aH q) (p.getD i dN).op c num i]).getD E0.length eZ=dU (aH q) (p.getD i dN).op c num i:=av;rw[hg] at ho |-;have ho:(p.getD i dN).op=15:=ho;obtain⟨j,e1,e2,e3⟩:=hT;have hil:i<p.length:=aa;have hn:=(H.hN i hil).2.1 (.inr (.inl ho));have hr:=H.hO i hil;unfold aJ at hr;rw[ho] at hr
    have h0:∀ j,0<=(p.getD j dN).int:=λj=>cE H.hI j
    have hreg:∀ o,dJ T (dU (aH q) 15 c num i) o=(p.getD (i+o) dN).int:=λo=>by
     unfold dJ;show ((T.getD (num-1).toNat tZ).p.getD (((i:Nat):Int).toNat+o) dN).int=_;rw[show (num-1).toNat=j by omega,e3];rfl
    rw[ho,hreg,hreg,hreg];have hp:=H.hp;have k2:=h0 (i+2);have k3:=h0 (i+3);have k4:=h0 (i+4);simp at hr;obtain⟨r1,r2,r3⟩:=FB hr;unfold ai at r1 r2 r3;exact⟨⟨j,i,e1,e2,rfl,⟨ae,aa⟩,by rw[e3],by rw[e3],by rw[e3]⟩,k2,aa,k3,aa,k4,aa⟩
 | @spec E0 E2 j y hm hj hs _ ih=>
   refine ih ?_;intro k hk ho;rw[Z18] at hk;rw[AN hj] at ho |-;split at ho
   ·rename_i e
    subst e;rw[if_pos rfl];rw[kZ hs.2.2.2.1 hs.2.2.2.2,kZ hs.2.2.2.1 hs.2.2.2.2,kZ hs.2.2.2.1 hs.2.2.2.2];exact RegAt.same hs.2.2.2.1 hs.2.2.2.2 (hE j hj (by rw[<-hs.2.1];exact ho))
   ·rename_i e
    rw[if_neg e];exact hE k hk ho
theorem RegE.tab (T':List Tb) (hl:T.length<=T'.length) (hT:∀ j,j<T.length->(T'.getD j tZ).p=(T.getD j tZ).p) (hE:RegE T E):RegE T' E:=by
 intro k hk ho;obtain⟨⟨j,nd,e1,e2,e3,⟨e4,e4'⟩,e5,e6,e7⟩,s0,s1,b0,b1,l0,l1⟩:=hE k hk ho
 have hreg:∀ o,dJ T' (E.getD k eZ) o=dJ T (E.getD k eZ) o:=λo=>by
  unfold dJ;rw[e1,show ((1:Int)+(j:Int)-1).toNat=j by omega,hT j e2]
 rw[hreg,hreg,hreg];refine⟨⟨j,nd,e1,aa,e3,⟨ae,e4'⟩,?_,?_,?_⟩,s0,s1,b0,b1,l0,l1⟩
 all_goals grind
end
end
abbrev EL (l:List Nat):List S:=l.map λ(j:Nat)=>S.int .i64 (j:Int)
abbrev ntB (l:List Nat):Bl:={cells:=EL l,ty:=3,sym:=true,flat:=true}
theorem FU (l:List Nat) {n:Nat} (h:n<l.length):(EL l)[n]? =some (.int .i64 ((l.getD n 0:Nat):Int)):=ae
theorem FT (n:Nat):EL (List.replicate n 0)=List.replicate n (.int .i64 0):=by simp[EL]
theorem Bc (p:List Nd) (hp:p.length<=2048) (h0:0<p.length) (t:Fo) {cs:List (Bool×Int)} (ha:t.At p 0) (hv:t.V cs) (hs:t.size=p.length):
 FQ 68 [ao p] 0 [] (.s (.frz (λk=>[.int .i64 (((cc t).getD k 0:Nat):Int)]) 1 (cc t).length)) 0 []:=by
 have hsz:(Tryz.prog.types[3]).size=1:=bd;have hby:(Tryz.prog.types[3]).bytes=8:=bd
 have hel:(cc t).length=p.length:=by rw[cc,Z0z,Z2e,hs]
 refine wW Tryz.func68 ?_
 repeat'(first|refine yA ?_|refine y2 ?_ ?_|exact y5|fail)
 refine kO [.idx p.length,.idx p.length] rfl rfl ⟨rfl,rfl,Z02 _,?_,aa⟩ ?_
 ·grind
 repeat'(first|refine yA ?_|refine y2 ?_ ?_|exact y5|fail)
 refine cD (σ:=Nat) (λi=>[(4,.s (.int .i64 ((i:Int)-1)))]) (λi=>[(0,some (ntB (gI t i)))]) (λi=>i<=p.length) (λi=>i) p.length rfl (λ_=>rfl) (Z02 _) bc ⟨by rw[<-hs,Bh,hs,ntB,FT];rfl,trivial⟩ ?_;intro i hi
 cases i with
 |zero=>
  repeat'(first|refine y1 ?_|refine y2 ?_ ?_|refine y4 λh=>?_|refine Ex.fz 2 (λk=>[.int .i64 (((cc t).getD k 0:Nat):Int)]) 1 rfl rfl rfl rfl (λ_ _=>rfl) ?_ rfl rfl ?_|refine cW (.inl rfl) rfl (bp (by show _=V.s (.frz _ 1 (cc t).length);rw[hel];rfl)) rfl|refine y3 ?_|exact y5|fail)
  intro k j x hk hx
  cases j with
  |succ j=>simp at hx
  |zero=>
   simp only[Z11,Z06] at hx;subst hx;rw[x6];refine⟨?_,rfl⟩
   grind
 |succ i=>
  refine fN 4 (nI i) (bp (congrArg nI ae)) rfl ?_;obtain⟨sl,k1,k2⟩:=cn (i:=i) ha hv (Z08 i) aa
  have hkid:(p.getD i dN).kids=(((t.kid 0 i).starts (i+1)).length:Nat):=by rw[bH];exact k1.2.1
  have hch:=At.chain k1.2.2.1
  have hcn:((t.kid 0 i).starts (i+1)).length<=2048:=by
   rw[bH];have h1:=Fo.cnt_le (t.kid 0 i);have h2:=At.size_le (Z1k (At.lt k1)) k1;simp only[Fo.size] at h2;omega
  have hul:=Bf t (i+1);generalize hcs:(t.kid 0 i).starts (i+1)=st at*
  repeat'(first|refine yA ?_|refine y2 ?_ ?_|refine y4 λh=>?_|exact y5|fail)
  rw[hkid];refine cD (σ:=List Nat×Nat×Nat) (λq=>[(5,nI q.2.1),(23,nI q.2.2)]) (λq=>[(0,some (ntB (gI t (i+1))))]) (λq=>Chain p (i+1+(t.kid 0 i).size) q.2.1 q.1/\q.2.2+q.1.length=st.length/\i+1<=q.2.1) (λq=>q.1.length) (st,i+1,0) rfl (λ_=>rfl) ⟨hch,ae,Z02 _⟩ bc ⟨rfl,trivial⟩ ?_;rintro⟨rest,cur,c⟩ ⟨c1,c2,c3⟩;simp only at c1 c2 c3 |-
  cases c1 with
  |nil=>
   simp only[Z0e] at c2;have e6:=Be (t:=t) (i:=i) aa
   repeat'(first|refine y1 ?_|refine y2 ?_ ?_|refine y4 λh=>?_|refine RegX.sto [.cells (EL (gI t i))] rfl rfl ⟨?_,?_⟩ rfl ?_|refine y3 ?_|exact y5|fail)
   all_goals try first
    |(show bT 0 (bS i (Tryz.prog.types[3]).size)+1<=(EL (gI t (i+1))).length;rw[hsz,aL,bB,Z0z,hul];omega)
    |(show _=(EL (gI t (i+1))).set (bT 0 (bS i (Tryz.prog.types[3]).size)) _;rw[hsz,aL,bB,Z0c,Z1p,<-e6];exact Z4l)
   exact dT i aa aa rfl bc ⟨rfl,trivial⟩ rfl rfl ac
  | @cons _ e l he r=>
    simp only[Z04] at c2
    have hlt:cur<p.length:=by cases he with|step h _ _ _=>exact h
    obtain⟨sl2,m1,m2⟩:=cn (i:=cur) ha hv (Z08 cur) aa
    have hee:(gI t (i+1)).getD cur 0=e:=by rw[Bg aa c3];exact (At.ends1 m1).uniq he
    have hle:=he.le.1
    repeat'(first|refine y1 ?_|refine y2 ?_ ?_|refine y4 λh=>?_|refine tW [.val (nI ((gI t (i+1)).getD cur 0:Nat))] rfl rfl ?_ rfl ?_|refine y3 ?_|exact y5|fail)
    all_goals try (show (match (EL (gI t (i+1)))[bT 0 (bS cur (Tryz.prog.types[3]).size)]? with|some x=>some (V.s x)|none=>none)=_;rw[hsz,aL,bB,Z0c,Z1p,FU _ aa])
    rw[hee];exact dT (l,e,c+1) ⟨r,ae,ae⟩ av rfl bc ⟨rfl,trivial⟩ rfl rfl ac
theorem Bb:FQ 68 [ao []] 0 [] (.s (.frz (λk=>[.int .i64 (((cc Fo.nil).getD k 0:Nat):Int)]) 1 (cc Fo.nil).length)) 0 []:=by
 refine wW Tryz.func68 ?_
 repeat'(first|refine yA ?_|refine y2 ?_ ?_|exact y5|fail)
 refine kO [.idx 0,.idx 0] rfl rfl ⟨rfl,rfl,Z02 _,ac,ac⟩ ?_
 repeat'(first|refine yA ?_|refine y2 ?_ ?_|exact y5|fail)
 refine cD (σ:=Unit) (λi=>[(4,.s (.int .i64 (-1)))]) (λi=>[(0,some (ntB []))]) (λi=>True) (λi=>0) () rfl (λ_=>rfl) trivial bc ⟨rfl,trivial⟩ ?_;intro i hi
 repeat'(first|refine y1 ?_|refine y2 ?_ ?_|refine y4 λh=>?_|refine Ex.fz 2 (λk=>[.int .i64 (((cc Fo.nil).getD k 0:Nat):Int)]) 1 rfl rfl rfl rfl (λ_ _=>rfl) ?_ rfl rfl ?_|refine cW (.inl rfl) rfl (ah _) rfl|refine y3 ?_|exact y5|fail)
theorem yf:SC Tryz.prog 67 [.s (.slc none 0 (some 0))] 0 [] (ao []) 0 []:=by
 refine (FC.walk (v:=ao []) bd Tryz.func67 rfl rfl ?_).2
 repeat'(first|refine y1 ?_|refine y2 ?_ ?_|refine y4 λh=>?_|refine cW (.inl rfl) rfl ?_ rfl|refine y3 ?_|exact y5|fail)
 exact VLe.s SLe.nil
theorem ye:SC Tryz.prog 67 [.s .emq] 0 [] (ao []) 0 []:=by
 refine (FC.walk (v:=ao []) bd Tryz.func67 rfl rfl ?_).2
 repeat'(first|refine y1 ?_|refine y2 ?_ ?_|refine RegX.atCmp (CmpG.nn false trivial rfl (.inl ⟨rfl,rfl⟩) rfl rfl ?_)|refine y3 ?_|exact y5|fail)
 refine kO [.app 0 []] rfl rfl ⟨rfl,rfl,rfl,rfl,rfl,rfl,(λh=>nomatch h),ae,ac⟩ ?_
 repeat'(first|refine y1 ?_|refine y2 ?_ ?_|refine fN 2 (ao []) (VLe.s (λφ x h=>SLe.emqfrz φ x (SLe.slaemq φ x h))) rfl ?_|refine cW (.inl rfl) rfl (ah _) rfl|refine y3 ?_|exact y5|fail)
theorem BK (p:List Nd) (hp:p.length<=2000000000):FQ 67 [ao p] 0 [] (ao p) 0 []:=by
 cases p with
 |nil=>exact⟨bd,SC.split2 (pre:=[]) (post:=[]) (λφ x h=>nv h) yf ye⟩
 |cons s t=>
  have hnp:((s::t).flatMap ndC).all cz=true:=qf {cells:=[],ty:=0,flat:=true} (s::t);refine wW Tryz.func67 ?_
  repeat'(first|refine y1 ?_|refine y2 ?_ ?_|refine RegX.atCmp (CmpG.nn false (Z1n _) rfl (.inl ⟨rfl,rfl⟩) rfl rfl ?_)|refine y3 ?_|exact y5|fail)
  refine kO [.app (s::t).length ((s::t).flatMap ndC)] rfl rfl ⟨rfl,trivial,rfl,by rw[Z0c],?_,?_,(λh=>nomatch h),?_,aa⟩ ?_
  ·rw[eI,Z24];rfl
  ·rw[eI];exact qf _ _
  ·rw[show (Tryz.prog.types[49]).bytes=40 by kernel_rfl];omega
  repeat'(first|refine y1 ?_|refine y2 ?_ ?_|refine Ex.fz 2 (λk=>ndC ((s::t).getD k dN)) 4 rfl rfl rfl rfl (λ_ _=>rfl) ?_ rfl rfl ?_|refine cW (.inl rfl) rfl (ah _) rfl|refine y3 ?_|exact y5|fail)
  intro k j x hk hx;have h:=dQ ndC 4 dN (λ_=>rfl) hk hx;refine⟨h,?_⟩
  rcases j with _|_|_|_|j
  ·cases hx;rfl
  ·cases hx;rfl
  ·cases hx;rfl
  ·cases hx;rfl
  ·simp[ndC] at hx
section
variable {G:Dgs}
def C6 (E:Dgs):Prop:=∀ d∈E,d.2=6
theorem zo {p:List Nd} {t:Fo} (hp:p.length<=2048) (ha:t.At p 0) (hv:t.V (List.replicate t.cnt (false,68))) (hs:t.size=p.length):(ew (jR p (anS p t).F (anS p t).S t p.length 0 (anS p t).G)).length<=1000000000:=by
 rw[eW]
 have key:∀ (l:List Nat),l.length<=2048->(∀ i∈l,i<p.length)->(l.flatMap (m9 p (anS p t).F (anS p t).S t)).length<=l.length*6145:=by
  intro l
  induction l with
  |nil=>grind
  |cons i l ih=>
   intro h1 h2;rw[Z0g,Z03,Z04];have:=ih ae (λj hj=>h2 j (Z0y _ hj));have hi:=h2 i (Z17 ..);obtain⟨sl,g1,g2⟩:=cn ha hv (Z08 i) (aa:i<0+t.size)
   grind [m9,k9]
 rw[jQ,Z03];have h1:=(cQ false t 0 ⟨true,0,[]⟩ (tS p)).2.2;rw[show (tS p).G.length=0 from rfl] at h1;have h2:=key (List.range' 0 p.length) ae (λi hi=>by grind);simp only[Z5e] at h2;have h3:p.length*6145<=2048*6145:=Z1w _ hp;have h4:(anS p t).G.length<=0+t.size:=h1;omega
theorem GB (h:C6 (ew G)):C6 G:=λd hd=>h d (by unfold ew;exact (Z57 ..).mem_iff.2 hd)
theorem H3 {k:Nat} (hk:k<G.length):G.getD k (0,0)∈G:=ae
theorem BR {p:List Nd} {F:List (By×Nat)} {T:List Pth} {t:Fo} (h:C6 (jR p F T t p.length 0 G)) (j:Nat) (hj:j<p.length):aJ p j=false:=by
 rw[jQ] at h
 have this:C6 (if aJ p j then [(j,4)] else []):=λd hd=>h d (Z47 _ (Z2h.2 ⟨j,ae,Z3c _ hd⟩))
 cases e:aJ p j with
 |false=>rfl
 |true=>
  rw[e,if_pos rfl] at this;have:=this (j,4) (Z0m.2 rfl);cases this
end
theorem DA (w:World) (o:Obj):(w.alloc o).heap[w.heap.size]? =some o:=by
 show (w.heap.push o)[w.heap.size]? =some o;simp
theorem Aj {κ α:Type} (K:KD κ) (agg:Bool) (sz:Nat) (c:α->List S) (hw:∀ a,(c a).length=sz) (E:En κ α) (ck:Nat) (f:FuncId) (hcl:∀ (b:Nat) (es:Array MapEntry) (clock:Nat) (w:World),w.heap[b]? =some (.map es clock)->Calls Tryz.prog f #[.map (some b)] w λe w'=>e=.returned (.map (some w.heap.size))/\w'=w.alloc (.map es clock)):
 SC Tryz.prog f [.s (.map (some 0))] 1 [(0,some (mB K agg sz c E ck))] (.s (.map (some 1))) 2 [(0,some (mB K agg sz c E ck)),(1,some (mB K agg sz c E ck))]:=by
 refine SC.fresh (L:=[(0,some (mB K agg sz c E ck))]) (mB K agg sz c E ck) (λj hj=>?_) (Z02 _) λφ xs w ha hg=>?_
 ·rw[aQ,if_neg aa];rfl
 ·match xs,ha with
  |[x],⟨hx,_⟩=>
   obtain⟨b,hb,hb2,rfl⟩:=hx;obtain⟨b',hb',hat⟩:=hg.hr 0 _ rfl;rw[hb] at hb';cases hb';obtain⟨M,hm,hM⟩:=o8 (r:=false) hw hat hb2;refine Z4d (hcl b.1 _ _ w hm) ?_;rintro e w' ⟨rfl,rfl⟩;refine⟨w.heap.size,λi=>if i=1 then some (w.heap.size,0) else none,_,rfl,(RowKit.Below.refl _ w).alloc (Z02 _) _,Z02 _,rfl,λi hi=>if_neg aa,λφ' hle hc=>⟨⟨(w.heap.size,0),hc 1 (Z02 _),rfl,rfl⟩,?_⟩⟩;exact wT hw (DA w _) (EntsR.mono (φ:=fl φ) (φ':=fl φ') ⟨λ_ _ h=>(by cases h),λ_ _ h=>hle.z _ _ h⟩ hM) rfl
theorem H1 (E:List Ent):FQ 123 [.s (.map (some 0))] 1 [(0,some (oB E))] (.s (.map (some 1))) 2 [(0,some (oB E)),(1,some (oB E))]:=
 ⟨bd,Aj oN true 14 fL er _ _ _ λb es clock w hb=>AnyW.maps_Clone Tryz.cloneA b es clock w hb⟩
theorem H0 (E:List Ent):FQ 124 [.s (.map (some 0))] 1 [(0,some (pB E))] (.s (.map (some 1))) 2 [(0,some (pB E)),(1,some (pB E))]:=
 ⟨bd,Aj G7 false 1 iC (λ_=>rfl) _ _ _ λb es clock w hb=>AnyW.maps_Clone Tryz.cloneB b es clock w hb⟩
theorem HZ (T:List Tb):FQ 125 [.s (.map (some 0))] 1 [(0,some (tB T))] (.s (.map (some 1))) 2 [(0,some (tB T)),(1,some (tB T))]:=
 ⟨bd,Aj oN true 2 kR fP _ _ _ λb es clock w hb=>AnyW.maps_Clone Tryz.cloneC b es clock w hb⟩
abbrev jb (o p t:Nat) (nx nt:Int):Bl:={cells:=[.map (some o),.map (some p),.map (some t),.int .i64 nx,.int .i64 nt],ty:=80}
theorem yc (E:List Ent) (T:List Tb) (nx nt:Int):FQ 66 [.s (.ptr (some (0,0)))] 4 [(0,some {jb 1 2 3 nx nt with ro:=true}),(1,some (oB E)),(2,some (pB E)),(3,some (tB T))] (.agg [.map (some 4),.map (some 5),.map (some 6),.int .i64 nx,.int .i64 nt]) 7 [(0,some {jb 1 2 3 nx nt with ro:=true}),(1,some (oB E)),(2,some (pB E)),(3,some (tB T)),(4,some (oB E)),(5,some (pB E)),(6,some (tB T))]:=by
 have h1:=H1 E;have h2:=H0 E;have h3:=HZ T;refine wW Tryz.func66 ?_
 repeat'(first|refine yA ?_|refine y2 ?_ ?_|refine wX (eO [1] h1 ?_)|refine wX (eO [2] h2 ?_)|refine wX (eO [3] h3 ?_)|exact y5|fail)
 exact⟨.inl rfl,_,[5,6,7],ah _,hY rfl ⟨rfl,rfl,rfl,rfl,rfl,rfl,rfl,trivial⟩ rfl rfl rfl rfl⟩
abbrev tT (E:List Ent) (T:List Tb):Hp:=[(0,some (jb 1 2 3 (E.length:Nat) (1+(T.length:Int)))),(1,some (oB E)),(2,some (pB E)),(3,some (tB T))]
abbrev spN (E:List Ent) (T:List Tb):Hp:=[(0,some (jb 4 5 6 (E.length:Nat) (1+(T.length:Int)))),(1,none),(2,none),(3,none),(4,some (oB E)),(5,some (pB E)),(6,some (tB T))]
section
variable {ops:Array Oper} {d:Bool} {bl:Bl} {L':Hp}
theorem xo (nt num:Int) (p:List Nd) (Eo:List Nat) (H:PrO p) (s:S) (hs:wg s=false) (T:List Tb) (E:List Ent) (rs:List Int) (hrs:rs.length<=50000) (m:Nat) (d:Fd) (hd:FdOK p m E.length d) (hrg:RegE T E) (hbt:BitO E) (R:List Ent×List Int×Int) (hR:jn p T d d.node.toNat E rs=R):
 FQ 70 [.s (.ptr (some (0,0))),.agg (kM d)] 6 (hL nt num p Eo s T E rs) (.s (.int .i64 R.2.2)) 8 (HS nt num p Eo s T R.1 R.2.1):=by
 obtain⟨i,e1,e2,e3⟩:=hd.node;have hR:jn p T d i E rs=R:=ae
 have h:=λx=>xp nt num p Eo H.hw H.hI x T E rs hrs d i e2 H.hp e1 hd.scope (λu hu=>by have:=hd.units u hu;omega) hd.len hd.b0 hd.b1 e3 hrg hbt R hR
 exact⟨(h (.int .i64 0)).1,SC.cst (i:=0) (o:=8) (i':=0) (o':=8) (s:=s) rfl rfl rfl rfl hs rfl rfl λy hy=>(h y).2⟩
theorem zR {nt num:Int} {p:List Nd} {Eo:List Nat} {T:List Tb} {E:List Ent} {rs:List Int}:e_ 6 (hL nt num p Eo .unk T E rs)=true:=by
 unfold hL gQ;generalize List.map _ rs=cg
 cases cg<;>rfl
abbrev G6 (a b c:Nat) (nx nt num:Int) (p:List Nd) (Eo:List Nat) (fs rs:S):Bl:={cells:=[.map (some a),.map (some b),.map (some c),.int .i64 nx,.int .i64 nt,.int .i64 num,.frz (λk=>ndC (p.getD k dN)) 4 p.length,.frz (λk=>[.int .i64 ((Eo.getD k 0:Nat):Int)]) 1 Eo.length,fs,rs],ty:=123}
def Cu:Fd:=⟨0,[],[],0⟩
section
variable {P:Program} {b:Nat} {env:List V} {n:Nat} {L:Hp} {R:Post}
theorem Ex.ld13 {ops:Array Oper} {d:Bool} (j i:Nat) (hn:n<=i) (hl:lk L j=some bl) (ho:bl.cells[8]? =some (.slc none 0 (some 0))) {L':Hp} (hL:put L j (some {bl with cells:=bl.cells.set 8 (.row i (i+1) 0)})=L') (k:Ex P b (.region 13 ops d) env (i+2) L' R):Ex P b (.region 13 ops d) env n L R:=
 Ex.cel j 8 hl ho SLe.nilrow hL (Ex.upN aa k)
theorem Ex.cel23 {ops:Array Oper} {d:Bool} (j o:Nat) {s s':S} (hl:lk L j=some bl) (ho:bl.cells[o]? =some s) (hle:SLe s s') {L':Hp} (hL:put L j (some {bl with cells:=bl.cells.set o s'})=L') (k:Ex P b (.region 23 ops d) env n L' R):Ex P b (.region 23 ops d) env n L R:=Ex.cel j o hl ho hle hL k
theorem Ex.fzC23 {ops:Array Oper} {d:Bool} (j o:Nat) (get:Nat->List S) (sz:Nat) {s:S} {i N:Nat} {blj:Bl} (hlj:lk L j=some blj) (hij:i≠j) (hs:blj.cells[o]? =some s) (ht:dB (.s s)=some (i,N)) (hl:lk L i=some bl) (hro:bl.ro=false) (hk:bl.kind=none)
 (hg:∀ k,k<N->(get k).length=sz) (hc:∀ k j x,k<N->(get k)[j]? =some x->bl.cells[k*sz+j]? =some x/\bL x=true)
 {L':Hp} (hL:put (put L i none) j (some {blj with cells:=blj.cells.set o (.frz get sz N)})=L') (k:Ex P b (.region 23 ops d) env n L' R):Ex P b (.region 23 ops d) env n L R:=Ex.fzC j o get sz hlj hij hs ht hl hro hk hg hc hL k
theorem DH (fs:List Fd) {k j:Nat} {x:S} (hk:k<fs.length) (hx:(kM (fs.getD k Cu))[j]? =some x):(fs.flatMap kM)[k*4+j]? =some x/\bL x=true:=by
 refine⟨dQ kM 4 Cu (λ_=>rfl) hk hx,?_⟩
 rcases j with _|_|_|_|j
 ·cases hx;rfl
 ·cases hx;rfl
 ·cases hx;rfl
 ·cases hx;rfl
 ·simp[kM] at hx
theorem Ex.frow {c:Code} (t i:Nat) (fs:List Fd) (ht:env.getD t .undef=.s (.row i (i+1) fs.length)) (hl:lk L i=lU i fs) {env':List V} (he:env.set t (.s (.frz (λk=>kM (fs.getD k Cu)) 4 fs.length))=env') (hL:put L i none=L') (k:Ex P b c env' n L' R):Ex P b c env n L R:=by
 cases fs with
 |nil=>
  subst hL;refine fN t _ (by rw[ht];exact VLe.s SLe.row0) he (Ex.subF (λj bl hj=>?_) k)
  grind [aE]
 |cons x fs=>
  have hlen:t<env.length:=by
   grind
  refine fN t (.s (.sla i (i+1) (x::fs).length)) (by rw[ht];exact VLe.s (SLe.rowsla (Z1n _))) rfl ?_;refine Ex.fz t (λk=>kM ((x::fs).getD k Cu)) 4 (bl:={cells:=(x::fs).flatMap kM,ty:=129,more:=true,sym:=true,flat:=true,gh:=some (i+1,4)}) (i:=i) (N:=(x::fs).length) ?_ hl rfl rfl (λ_ _=>rfl) (λk j y hk hx=>DH (x::fs) hk hx) ?_ hL k
  ·rw[Z00,Z1i,if_pos rfl,if_pos hlen];rfl
  ·rw[<-he,Z5m]
end
theorem Ao (p:List Nd) (H:PrO p) (G:Dgs) (hG:G.length<=1000000000) (hck:FQ 65 [ao p] 0 [] (tf G) 0 []) (h6:C6 G) (t:Fo) (ha:t.At p 0) (hv:t.V (List.replicate t.cnt (false,68))) (hs:t.size=p.length) (hE:EOK p (cc t)) (hen:FQ 68 [ao p] 0 [] (.s (.frz (λk=>[.int .i64 (((cc t).getD k 0:Nat):Int)]) 1 (cc t).length)) 0 [])
 (E:List Ent) (T:List Tb) (hT:T.length<=10) (hreg:RegE T E) (hbit:BitO E) (D:DR) (hD:aY p (1+(T.length:Int)) false t 0 ⟨true,0,[]⟩ E []=D) (R:List Ent×List Int×Int) (hR:zj p (T++[⟨p,[]⟩]) D.2.1 D.1 []=R)
 (v:V) (n':Nat) (L':Hp) (hA:D.2.2≠0->v=.tup [.s (.int .i64 0),.s (.int .i64 D.2.2)]/\n'=7/\L'=spN E T) (hB:D.2.2=0->R.2.2≠0->v=.tup [.s (.int .i64 0),.s (.int .i64 R.2.2)]/\n'=7/\L'=spN E T)
 (hC:D.2.2=0->R.2.2=0->v=.tup [.s (.int .i64 (1+(T.length:Int))),.s (.int .i64 0)]/\n'=7/\L'=[(0,some (jb 4 5 6 (R.1.length:Nat) (1+(T.length:Int)+1))),(1,none),(2,none),(3,none),(4,some (oB R.1)),(5,some (pB R.1)),(6,some (tB (T++[⟨p,R.2.1⟩])))]):
 FQ 25 [.s (.ptr (some (0,0))),ao p] 4 (tT E T) v n' L':=by
 have hp:=H.hp;have hcl:=yc E T (E.length:Nat) (1+(T.length:Int));have hcn:=BK p aa;have hdg:=nN (num:=1+(T.length:Int)) (m:=E.length) H t.size t 0 ⟨true,0,[]⟩ E [] (Z02 _) ha hv ⟨Z02 _,hbit,λd hd=>by cases hd⟩;have hdl:=gj (p:=p) (num:=1+(T.length:Int)) false t 0 ⟨true,0,[]⟩ E [];have hdc:=Bq (1+(T.length:Int)+1) (1+(T.length:Int)) p (cc t) hp hE t.size (tj (1+(T.length:Int)+1) (1+(T.length:Int)) p (cc t) hp H.hw H.hI H.hO H.hN hE t.size) t 0 ⟨true,0,[]⟩ E [] (Z02 _) ha hv rfl ae;rw[hD] at hdg hdl hdc;obtain⟨E1,fs,e⟩:=D;simp only at hdg hdl hdc hR hA hB hC;have hel:=hE.len
 have hTn:∃ j:Nat,1+(T.length:Int)=1+(j:Int)/\j<(T++[(⟨p,[]⟩:Tb)]).length/\((T++[(⟨p,[]⟩:Tb)]).getD j tZ).p=p:=⟨T.length,rfl,av,av⟩
 have hr1:RegE (T++[⟨p,[]⟩]) E1:=RegE.gro H hTn hdg.1 (RegE.tab _ av (λj hj=>by grind) hreg);refine wW Tryz.func25 ?_
 repeat'(first|refine yA ?_|refine y2 ?_ ?_|refine an hck ?_|exact y5|fail)
 refine cD (σ:=Nat) (λi=>[(16,nI (i:Nat))]) (λ_=>tT E T) (λi=>i<=G.length) (λi=>G.length-i) 0 rfl (λ_=>rfl) (Z08 _) bc ⟨rfl,rfl,rfl,rfl,trivial⟩ ?_;intro j hj;by_cases hlt:j<G.length
 ·have hc:(G.getD j (0,0)).2=6:=h6 _ (H3 hlt)
  repeat'(first|refine yA ?_|refine y2 ?_ ?_|refine y4 λh=>?_|exact y5|fail)
  refine dT (j+1) hlt aa rfl ⟨bp (congrArg nI ae),trivial⟩ ⟨rfl,rfl,rfl,rfl,trivial⟩ rfl rfl ac
 by_cases he:e=0
 ·subst he
  repeat'(first|refine Ex.ld13 7 8 ac rfl rfl rfl ?_|refine y1 ?_|refine y2 ?_ ?_|refine y4 λh=>?_|(refine wX ?_;refine Ic [0,1,2,3] 0 (bl1:={jb 1 2 3 (E.length:Nat) (1+(T.length:Int)) with ro:=true}) hcl rfl rfl bc rfl rfl (λφ w b h=>BlAt.weaken h true (λ_=>rfl)) rfl mF rfl rfl rfl rfl ?_)|refine an hcn ?_|refine an hen ?_|(refine wX ?_;refine ja [7,4,5,6,8,9] hdc ?_ (wr:=[(7,some (G6 4 5 6 (E1.length:Nat) (1+(T.length:Int)+1) (1+(T.length:Int)) p (cc t) (.row 10 11 fs.length) (.slc none 0 (some 0)))),(4,some (oB E1)),(5,some (pB E1)),(8,none),(10,lU 10 fs)]) (k2:=fI) (hle:=by exact⟨ah _,ah _,bp (congrArg nI (by rw[hs];omega)),VLe.agg ⟨SLe.refl _,SLe.refl _,SLe.nil,trivial⟩,trivial⟩))|refine RegX.tLen rfl rfl rfl rfl ?_|refine RegX.tNew ⟨p,[]⟩ rfl rfl ?_ ?_ rfl rfl rfl rfl ?_|refine y3 ?_|exact y5|fail)
  all_goals try exact VLe.agg ⟨SLe.refl _,SLe.nil,trivial⟩
  have hB:=hB rfl;have hC:=hC rfl;have hml:=hdg.1.len;have hfl:fs.length<=2048:=ae;refine Ex.frow 85 10 fs rfl rfl rfl rfl ?_;refine Ex.cel 7 8 (s':=.unk) rfl rfl (λφ x h=>Sr.cell h rfl) rfl ?_;refine Ex.cel 7 9 (s':=.row 12 13 0) rfl rfl SLe.nilrow rfl (Ex.upN (n':=14) ac ?_);refine Cy [0,1,2,3,4,5,6,7,12,13] 126 [(0,.s (.ptr (some (0,0)))),(8,.s (.ptr (some (7,0)))),(85,.s (.frz (λk=>kM (fs.getD k Cu)) 4 fs.length)),(86,nI fs.length),(87,nI 0)] [(0,some (jb 1 2 3 (E.length:Nat) (1+(T.length:Int)))),(1,some (oB E)),(2,some (pB E)),(3,some (tB T)),(4,some (oB E1)),(5,some (pB E1)),(6,some (tB (T++[⟨p,[]⟩]))),(7,some (G6 4 5 6 (E1.length:Nat) (1+(T.length:Int)+1) (1+(T.length:Int)) p (cc t) .unk (.row 8 9 0)))] rfl rfl ⟨ah _,ah _,ah _,ah _,ah _,trivial⟩ ⟨rfl,rfl,rfl,rfl,rfl,rfl,rfl,rfl,trivial⟩ rfl ?_
  refine cD (σ:=Nat×List Ent×List Int) (λq=>[(87,nI q.1)]) (λq=>[(0,some (jb 1 2 3 (E.length:Nat) (1+(T.length:Int)))),(1,some (oB E)),(2,some (pB E)),(3,some (tB T)),(4,some (oB q.2.1)),(5,some (pB q.2.1)),(6,some (tB (T++[⟨p,[]⟩]))),(7,some (G6 4 5 6 (q.2.1.length:Nat) (1+(T.length:Int)+1) (1+(T.length:Int)) p (cc t) .unk (.row 8 9 q.2.2.length))),(8,gQ 8 q.2.2)])
   (λq=>q.1<=fs.length/\q.2.1.length=E1.length/\(BitO q.2.1/\RegE (T++[⟨p,[]⟩]) q.2.1)/\RefG E1.length q.2.2/\q.2.2.length<=2*q.1/\zj p (T++[⟨p,[]⟩]) (fs.drop q.1) q.2.1 q.2.2=R) (λq=>fs.length-q.1) (0,E1,[]) rfl (λ_=>rfl) ?_ ?_ ?_ ?_
  ·exact⟨Z08 _,rfl,⟨hdg.2.1,hr1⟩,λr hr=>(by cases hr),Z02 _,hR⟩
  ·exact bc
  ·exact⟨rfl,rfl,rfl,rfl,rfl,rfl,rfl,rfl,trivial⟩
  rintro⟨j,E2,rs⟩ ⟨j1,j2,⟨j3,j4⟩,j5,j6,j7⟩;simp only at j1 j2 j3 j4 j5 j6 j7 |-;by_cases hj:j<fs.length
  ·have hdr:fs.drop j=fs.getD j Cu::fs.drop (j+1):=by rw[Z0k hj,Z00,Z01 hj];rfl
   have hmem:fs.getD j Cu∈fs:=ae;have hd:=(hdg.2.2 _ hmem).mono (N':=E2.length) ae;have hres:=xo (1+(T.length:Int)+1) (1+(T.length:Int)) p (cc t) H .unk rfl (T++[⟨p,[]⟩]) E2 rs aa E.length _ hd j4 j3 _ rfl;have hro:=Fx (num:=1+(T.length:Int)) (T:=T++[⟨p,[]⟩]) (i:=(fs.getD j Cu).node.toNat) (rs:=rs) hd j3 ae;rw[hdr,zj] at j7;generalize jn p (T++[⟨p,[]⟩]) (fs.getD j Cu) (fs.getD j Cu).node.toNat E2 rs=Q at hres hro j7;obtain⟨E3,rs3,e⟩:=Q;simp only at hres hro j7;obtain⟨⟨o1,o2⟩,o3,o4,o5⟩:=hro;by_cases he:e=0
   ·subst he
    rw[if_pos rfl] at j7
    repeat'(first|refine yA ?_|refine y2 ?_ ?_|refine y4 λh=>?_|(refine wX ?_;refine ja [7,4,5,6,8,9] hres ?_ (wr:=[(7,some (G6 4 5 6 (E3.length:Nat) (1+(T.length:Int)+1) (1+(T.length:Int)) p (cc t) .unk (.row 11 12 rs3.length))),(4,some (oB E3)),(5,some (pB E3)),(6,some (tB (T++[⟨p,[]⟩]))),(8,none),(11,gQ 11 rs3)]) (k2:=zR))|exact y5|fail)
    refine fq (j+1,E3,rs3) ⟨ae,ae,⟨o2,RegE.gro H hTn o1 j4⟩,ae,ae,j7⟩ ae [0,1,2,3,4,5,6,7,11,12] rfl ?_ ?_ ?_
    ·repeat'(first|exact ah _|exact cT _|exact Z0o|refine⟨?_,?_⟩)
    ·exact⟨rfl,rfl,rfl,rfl,rfl,rfl,rfl,rfl,bN rfl trivial⟩
    ·unfold gQ
     generalize List.map _ rs3=cg
     cases cg<;>rfl
   ·rw[if_neg he] at j7
    obtain⟨rfl,rfl,rfl⟩:=hB ae;subst j7
    repeat'(first|refine yA ?_|refine y2 ?_ ?_|refine y4 λh=>?_|(refine wX ?_;refine ja [7,4,5,6,8,9] hres ?_ (wr:=[(7,some (G6 4 5 6 (E3.length:Nat) (1+(T.length:Int)+1) (1+(T.length:Int)) p (cc t) .unk (.row 11 12 rs3.length))),(4,some (oB E3)),(5,some (pB E3)),(6,some (tB (T++[⟨p,[]⟩]))),(8,none),(11,gQ 11 rs3)]) (k2:=zR))|exact y5|fail)
    exact⟨.inl rfl,_,[1,2,3],ah _,Cx rfl ⟨rfl,rfl,rfl,rfl,trivial⟩ rfl rfl rfl rfl rfl⟩
  ·have hdr:fs.drop j=[]:=ae
   rw[hdr,zj] at j7;subst j7;obtain⟨rfl,rfl,rfl⟩:=hC rfl;simp only
   cases rs with
   |nil=>
    repeat'(first|refine Ex.cel23 7 9 (s':=Dv []) rfl rfl SLe.row0 rfl ?_|refine y1 ?_|refine y2 ?_ ?_|refine y4 λh=>?_|refine RegX.tUpd T.length ⟨p,[]⟩ rfl rfl ?_ ?_ ?_ rfl rfl rfl rfl ?_|refine y3 ?_|exact y5|fail)
    all_goals try exact ah _
    have hset:(T++[(⟨p,[]⟩:Tb)]).set T.length ⟨p,[]⟩=T++[⟨p,[]⟩]:=av;refine⟨.inl rfl,_,[4,5,6],ah _,hY rfl ⟨rfl,rfl,rfl,?_,trivial⟩ rfl rfl rfl rfl⟩;exact (show some (tB ((T++[(⟨p,[]⟩:Tb)]).set T.length ⟨p,[]⟩))=some (tB (T++[⟨p,[]⟩])) by grind)
   |cons r rs=>
    repeat'(first|refine Ex.fzC23 7 9 (λk=>[.int .i64 ((r::rs).getD k 0)]) 1 rfl ac rfl rfl rfl rfl rfl (λ_ _=>rfl) (yR _) rfl ?_|refine y1 ?_|refine y2 ?_ ?_|refine y4 λh=>?_|refine RegX.tUpd T.length ⟨p,r::rs⟩ rfl rfl ?_ ?_ ?_ rfl rfl rfl rfl ?_|refine y3 ?_|exact y5|fail)
    all_goals try exact ah _
    have hset:(T++[(⟨p,[]⟩:Tb)]).set T.length ⟨p,(r::rs)⟩=T++[⟨p,(r::rs)⟩]:=av;refine⟨.inl rfl,_,[4,5,6],ah _,hY rfl ⟨rfl,rfl,rfl,?_,trivial⟩ rfl rfl rfl rfl⟩;exact (show some (tB ((T++[(⟨p,[]⟩:Tb)]).set T.length ⟨p,(r::rs)⟩))=some (tB (T++[⟨p,(r::rs)⟩])) by grind)
 ·obtain⟨rfl,rfl,rfl⟩:=hA he
  repeat'(first|refine Ex.ld13 7 8 ac rfl rfl rfl ?_|refine y1 ?_|refine y2 ?_ ?_|refine y4 λh=>?_|(refine wX ?_;refine Ic [0,1,2,3] 0 (bl1:={jb 1 2 3 (E.length:Nat) (1+(T.length:Int)) with ro:=true}) hcl rfl rfl bc rfl rfl (λφ w b h=>BlAt.weaken h true (λ_=>rfl)) rfl mF rfl rfl rfl rfl ?_)|refine an hcn ?_|refine an hen ?_|(refine wX ?_;refine ja [7,4,5,6,8,9] hdc ?_ (wr:=[(7,some (G6 4 5 6 (E1.length:Nat) (1+(T.length:Int)+1) (1+(T.length:Int)) p (cc t) (.row 10 11 fs.length) (.slc none 0 (some 0)))),(4,some (oB E1)),(5,some (pB E1)),(8,none),(10,lU 10 fs)]) (k2:=fI) (hle:=by exact⟨ah _,ah _,bp (congrArg nI (by rw[hs];omega)),VLe.agg ⟨SLe.refl _,SLe.refl _,SLe.nil,trivial⟩,trivial⟩))|refine RegX.tLen rfl rfl rfl rfl ?_|refine RegX.tNew ⟨p,[]⟩ rfl rfl ?_ ?_ rfl rfl rfl rfl ?_|refine y3 ?_|exact y5|fail)
  all_goals try exact VLe.agg ⟨SLe.refl _,SLe.nil,trivial⟩
  exact⟨.inl rfl,_,[1,2,3],ah _,Cx rfl ⟨rfl,rfl,rfl,rfl,trivial⟩ rfl rfl rfl rfl rfl⟩
end
def E0:List Ent:=[dU [92] 10 (-1) 0 0,dU [92,95,83,66] 10 0 0 0,dU [92,95,71,80,69] 10 0 0 0]
theorem EP:FQ 10 [] 0 [] (.s (.ptr (some (0,0)))) 4 [(0,some (jb 1 2 3 3 1)),(1,some (oB E0)),(2,some (pB E0)),(3,some (tB []))]:=by
 refine wW Tryz.func10 ?_
 repeat'(first|refine y1 ?_|refine y2 ?_ ?_|refine RegX.mkM (tx:=76) oN true 14 fL er rfl ?_|refine RegX.mkM (tx:=77) G7 false 1 iC (λ_=>rfl) rfl ?_|refine RegX.mkM (tx:=78) oN true 2 kR fP rfl ?_|refine y3 ?_|exact y5|fail)
 refine cD (σ:=Nat) (λj=>[(12,nI j)]) (λj=>[(0,some (oB (E0.take j))),(1,some (pB (E0.take j))),(2,some (tB [])),(3,some (jb 0 1 2 3 1)),(4,some {cells:=[.str [92],.str [92,95,83,66],.str [92,95,71,80,69]],ty:=9})]) (λj=>j<=3) (λj=>3-j) 0 rfl (λ_=>rfl) (Z08 _) bc ⟨rfl,rfl,rfl,rfl,rfl,trivial⟩ ?_;intro j hj
 match j,hj with
 |0,_=>
  repeat'(first|refine y1 ?_|refine y2 ?_ ?_|refine y4 λh=>?_|refine RegX.oNew (E:=E0.take 0) (dU [92] 10 (-1) 0 0) rfl rfl rfl (ah _) rfl rfl rfl rfl ?_|refine RegX.pNew (E:=E0.take 0) (dU [92] 10 (-1) 0 0) rfl rfl rfl rfl rfl rfl rfl rfl rfl ?_|refine y3 ?_|exact y5|fail)
  exact dT 1 ac ac rfl bc ⟨rfl,rfl,rfl,rfl,rfl,trivial⟩ rfl rfl ac
 |1,_=>
  repeat'(first|refine y1 ?_|refine y2 ?_ ?_|refine y4 λh=>?_|refine RegX.oNew (E:=E0.take 1) (dU [92,95,83,66] 10 0 0 0) rfl rfl rfl (ah _) rfl rfl rfl rfl ?_|refine RegX.pNew (E:=E0.take 1) (dU [92,95,83,66] 10 0 0 0) rfl rfl rfl rfl rfl rfl rfl rfl rfl ?_|refine y3 ?_|exact y5|fail)
  exact dT 2 ac ac rfl bc ⟨rfl,rfl,rfl,rfl,rfl,trivial⟩ rfl rfl ac
 |2,_=>
  repeat'(first|refine y1 ?_|refine y2 ?_ ?_|refine y4 λh=>?_|refine RegX.oNew (E:=E0.take 2) (dU [92,95,71,80,69] 10 0 0 0) rfl rfl rfl (ah _) rfl rfl rfl rfl ?_|refine RegX.pNew (E:=E0.take 2) (dU [92,95,71,80,69] 10 0 0 0) rfl rfl rfl rfl rfl rfl rfl rfl rfl ?_|refine y3 ?_|exact y5|fail)
  exact dT 3 ac ac rfl bc ⟨rfl,rfl,rfl,rfl,rfl,trivial⟩ rfl rfl ac
 |3,_=>
  repeat'(first|refine yA ?_|refine y2 ?_ ?_|refine y4 λh=>?_|exact y5|fail)
  exact⟨.inl rfl,_,[3,0,1,2],ah _,hY rfl ⟨rfl,rfl,rfl,rfl,trivial⟩ rfl rfl rfl rfl⟩
 |j+4,h=>omega
