import Derived.Test.YtegjgpldfgjoiaaGreatDoorCnB20
import Derived.Test.YtegjgpldfgjoiaaGreatDoorCnB18
import Derived.Test.YtegjgpldfgjoiaaGreatDoorCnB19
import Derived.Test.YtegjgpldfgjoiaaGreatDoorCnB16
import Derived.Test.YtegjgpldfgjoiaaGreatDoorCnB14
set_option linter.unusedSimpArgs false
set_option linter.unusedVariables false
namespace Go.Proofs.YtegjgpldfgjoiaaGreatDoor
open Go Ab
set_option maxRecDepth 100000
set_option maxHeartbeats 2000000
structure PrO (p:List Nd):Prop where
 hp:p.length<=2048
 hw:wfN p
 hI:wfI p
 hO:∀ j,j<p.length->bU p j=false
 hN:∀ j,j<p.length->gY p j
structure FdOK (p:List Nd) (m N:Nat) (d:Fd):Prop where
 node:∃ i:Nat,d.node=i/\i+3<p.length/\((p.getD i dN).op≠16->1<=ai p (i+3)/\ai p (i+3)<=8)
 scope:d.scope.length<9223372036854775807
 units:∀ u∈d.units,(m:Int)<=u/\u<N
 len:d.units.length<=2048
 b0:0<=d.bits
 b1:d.bits<=20000000000
theorem FdOK.mono {p:List Nd} {m N N':Nat} {d:Fd} (h:FdOK p m N d) (hN:N<=N'):FdOK p m N' d:=
 ⟨h.node,h.scope,fun u hu=>by have:=h.units u hu;omega,h.len,h.b0,h.b1⟩
def BitO (E:List Ent):Prop:=∀ k,(E.getD k eZ).bit<=1099511627776
theorem BitO.push {E:List Ent} {y:Ent} (h:BitO E) (hy:y.bit<=1099511627776):BitO (E++[y]):=by
 intro k
 rcases Nat.lt_trichotomy k E.length with e|e|e
 ·rw[List.getD_eq_getElem?_getD,List.getElem?_append_left e,<-List.getD_eq_getElem?_getD];exact h k
 ·subst e;simp;exact hy
 ·rw[List.getD_eq_getElem?_getD,List.getElem?_eq_none (by simp;omega)]
  exact (by decide:(0:Int)<=1099511627776)
theorem BitO.set {E:List Ent} {y:Ent} (h:BitO E) (hy:y.bit<=1099511627776) (j:Nat):BitO (E.set j y):=by
 intro k;rw[List.getD_eq_getElem?_getD,List.getElem?_set];split
 ·split
  ·exact hy
  ·exact (by decide:(0:Int)<=1099511627776)
 ·rw[<-List.getD_eq_getElem?_getD];exact h k
theorem Aq (q:Pth):(aL q).length<9223372036854775807:=by
 unfold aL;split
 ·rename_i h
  obtain⟨h1,h2,h3,_,h5,_⟩:=aS h;have h6:=iR h5;rw[List.length_append];split
  ·simp only[List.length_singleton];omega
  ·rw[List.length_replicate];omega
 ·decide
section
variable {p:List Nd} {num:Int} {m:Nat}
theorem AddOK.gro {E E':List Ent} {i:Nat} {sc q:Pth} (hi:i+1<p.length) (h:AddOK p num E i sc E' q):Gro p num m E E':=.add hi h (.refl _)
theorem AddOK.bit {E E':List Ent} {i:Nat} {sc q:Pth} (hE:BitO E) (h:AddOK p num E i sc E' q):BitO E':=by
 obtain⟨ab,c,_,_,rfl⟩:=h.up;exact hE.push (by decide:(0:Int)<=1099511627776)
def ElG (p:List Nd) (num:Int) (m:Nat) (E:List Ent) (us:List Int) (bits:Int) (s:Nat) (R:List Ent×List Int×Int×Int):Prop:=
 Gro p num m E R.1/\BitO R.1/\(∀ u∈R.2.1,(m:Int)<=u/\u<R.1.length)/\R.2.1.length<=us.length+s/\0<=R.2.2.1/\R.2.2.1<=bits+8388608*s
theorem pm (H:PrO p) (sc:Pth) (wid upd:Int):∀ (kf:Fo) (c:Nat) (E:List Ent) (us:List Int) (bits:Int),kf.At p c->kf.V (List.replicate kf.cnt (false,70))->m<=E.length->BitO E->0<=bits->bits+8388608*kf.size<=20000000000->(∀ u∈us,(m:Int)<=u/\u<E.length)->
 ElG p num m E us bits kf.size (im p num sc wid upd kf c E us bits)
 | .nil,c,E,us,bits,_,_,hm,hb,h0,h1,hu=>by
   unfold im;exact⟨.refl _,hb,hu,Nat.le_add_right _ _,h0,by simp only[Fo.size];omega⟩
 | .cons x k n,c,E,us,bits,ha,hv,hm,hb,h0,h1,hu=>by
   have hcl:=At.lt ha;have hx:=At.get ha;have hac:=hv.1.1;simp only[Fo.size] at h1
   have hbd:∀ j,0<=ai p j:=fun j=>cH H.hI j
   rw[im];by_cases h19:x.op=19
   ·rw[if_pos h19]
    have hop:(p.getD c dN).op=19:=by rw[hx];exact h19
    have hb1:=DZ (H.hO c hcl) hop;have hb0:=hbd (c+1);obtain⟨g1,g2,g3,g4,g5,g6⟩:=pm H sc wid upd n (c+1+k.size) E us (bits+ai p (c+1)) ha.2.2.2 hv.2.2 hm hb (by omega) (by omega) hu;exact⟨g1,g2,g3,by simp only[Fo.size];omega,g5,by simp only[Fo.size];omega⟩
   ·rw[if_neg h19]
    have h18:x.op=18:=by rcases Ej hac with h|h;exact h;exact absurd h h19
    have hop:(p.getD c dN).op=18:=by rw[hx];exact h18
    have hb1:=D_ (H.hO c hcl) hop;have hb0:=hbd (c+2);have hn:=(H.hN c hcl).2.2.2.1 (.inr (.inl hop));have hao:=kN 0 [] num p H.hp H.hw E c (by omega) sc;generalize cr p num E c sc=A at hao |-;obtain⟨E2,id,q,e⟩:=A;simp only at hao |-
    rcases hao with ⟨rfl,he⟩|⟨rfl,rfl,hA⟩
    ·rw[if_pos he]
     exact⟨.refl _,hb,hu,Nat.le_add_right _ _,h0,by simp only[Fo.size];omega⟩
    ·rw[if_neg (by simp)]
     have hlA:=hA.len;have hls:= @List.length_set _ E2 E.length (spE (E2.getD E.length eZ) bits (ai p (c+2)) wid upd)
     obtain⟨g1,g2,g3,g4,g5,g6⟩:=pm H sc wid upd n (c+1+k.size) (E2.set E.length (spE (E2.getD E.length eZ) bits (ai p (c+2)) wid upd)) (us++[(E.length:Int)]) (bits+ai p (c+2)) ha.2.2.2 hv.2.2 (by omega)
      ((hA.bit hb).set (by show bits<=_;omega) _) (by omega) (by omega) (fun u hu'=>by
        rcases List.mem_append.1 hu' with h|h
        ·have:=hu u h;omega
        ·have:=List.mem_singleton.1 h;omega)
     refine⟨.add (by omega) hA (.spec (y:=spE (E2.getD E.length eZ) bits (ai p (c+2)) wid upd) hm (by omega) ⟨rfl,rfl,rfl,rfl,rfl⟩ g1),g2,g3,?_,g5,by simp only[Fo.size];omega⟩;simp only[List.length_append,List.length_singleton] at g4;simp only[Fo.size];omega
def PG (p:List Nd) (m:Nat) (E:List Ent) (fs:List Fd):Prop:=m<=E.length/\BitO E/\∀ d∈fs,FdOK p m E.length d
def DG (p:List Nd) (num:Int) (m:Nat) (E:List Ent) (R:DR):Prop:=Gro p num m E R.1/\BitO R.1/\∀ d∈R.2.1,FdOK p m R.1.length d
theorem DG.refl {E:List Ent} {fs:List Fd} {e:Int} (h:PG p m E fs):DG p num m E (E,fs,e):=⟨.refl _,h.2.1,h.2.2⟩
theorem DG.pg {E:List Ent} {R:DR} (hm:m<=E.length) (h:DG p num m E R):PG p m R.1 R.2.1:=⟨Nat.le_trans hm h.1.len,h.2.1,h.2.2⟩
theorem DG.trans {E:List Ent} {R S:DR} (h:DG p num m E R) (k:DG p num m R.1 S):DG p num m E S:=⟨h.1.trans k.1,k.2⟩
theorem PG.add {E E':List Ent} {i:Nat} {sc q:Pth} {fs:List Fd} (h:PG p m E fs) (hA:AddOK p num E i sc E' q):PG p m E' fs:=by
 have:=hA.len;exact⟨by have:=h.1;omega,hA.bit h.2.1,fun d hd=>(h.2.2 d hd).mono (by omega)⟩
theorem F4 {a b:Int} (h:pD a b=false):1<=a/\a<=8:=by
 unfold pD at h;simp at h;omega
theorem yz {E:List Ent} {fs:List Fd} {i s:Nat} {sc:Pth} {R:List Ent×List Int×Int×Int} (h:PG p m E fs) (hR:ElG p num m E [] 0 s R) (hs:s<=2048) (hi:i+3<p.length) (hwd:(p.getD i dN).op≠16->1<=ai p (i+3)/\ai p (i+3)<=8):
 DG p num m E (lu i sc fs R):=by
 obtain⟨g1,g2,g3,g4,g5,g6⟩:=hR;have hl:=g1.len;simp only[List.length_nil,Nat.zero_add] at g4;refine⟨g1,g2,fun d hd=>?_⟩;unfold lu rG at hd;simp only at hd
 have old:∀ d∈fs,FdOK p m R.1.length d:=fun d hd=>(h.2.2 d hd).mono hl
 split at hd
 ·rcases List.mem_append.1 hd with hd|hd
  ·exact old d hd
  ·have:=List.mem_singleton.1 hd
   subst this;exact⟨⟨i,rfl,hi,hwd⟩,Aq sc,g3,by simp only;omega,g5,by simp only;omega⟩
 ·exact old d hd
theorem gx (H:PrO p):∀ (N:Nat) (t:Fo) (i:Nat) (sc:Pth) (E:List Ent) (fs:List Fd),t.size<=N->t.At p i->t.V (List.replicate t.cnt (false,68))->PG p m E fs->DG p num m E (aW p num false t i sc E fs)
 |_,.nil,i,sc,E,fs,_,_,_,h=>by rw[aW];exact DG.refl h
 |0,.cons x k n,_,_,_,_,hN,_,_,_=>by simp only[Fo.size] at hN;omega
 |N+1,.cons x k n,i,sc,E,fs,hN,ha,hv,h=>by
  simp only[Fo.size] at hN;have hp:=H.hp;have hi:=At.lt ha;have hx:=At.get ha;have hsz:=At.size_le (Nat.le_of_lt hi) ha;simp only[Fo.size] at hsz;have hkV:=hv.2.1;have hkA:=ha.2.2.1;obtain⟨hi1,_⟩:=jJ (.inl rfl) ha hv
  have one:DG p num m E (aW p num false (.cons x k .nil) i sc E fs):=by
   rw[pq];unfold ko;by_cases h10:x.op=10
   ·rw[if_pos h10]
    rw[h10,qH] at hkV;obtain⟨bl,hz,hbl⟩:=aP [110] k rfl hkV;obtain⟨hb1,hb2⟩:=hbl p (i+1) hkA;split
    ·exact DG.refl h
    ·split
     ·exact DG.refl h
     ·show DG p num m E (aW p num true k (i+1) _ E fs)
      rw[ee (p:=p) (num:=num) [110] k rfl hkV];simp only[List.length_singleton] at hz;exact gx H N (ay k) _ _ E fs (by omega) hb1.2.2.1 hb2.2.1 h
   rw[if_neg h10];by_cases h16:x.op=16
   ·rw[if_pos h16]
    have hop:(p.getD i dN).op=16:=by rw[hx];exact h16
    rw[h16,qE] at hkV;obtain⟨bl,hz,hbl⟩:=aP [110,105,105] k rfl hkV;obtain⟨hb1,hb2⟩:=hbl p (i+1) hkA;simp only[List.length_cons,List.length_nil] at hz;rw[show i+1+([110,105,105]:List Int).length=i+4 from rfl] at hb1
    exact yz h (pm H sc _ _ (ay k) (i+4+1) E [] 0 hb1.2.2.1 hb2.2.1 h.1 h.2.1 (Int.le_refl _) (by omega) (fun u hu=>by cases hu)) (by omega) ((H.hN i hi).2.2.1 (.inr hop)) fun e=>absurd hop e
   rw[if_neg h16];by_cases h17:x.op=17
   ·rw[if_pos h17]
    have hop:(p.getD i dN).op=17:=by rw[hx];exact h17
    rw[h17,qD] at hkV;obtain⟨bl,hz,hbl⟩:=aP [110,110,105,105] k rfl hkV;obtain⟨hb1,hb2⟩:=hbl p (i+1) hkA;simp only[List.length_cons,List.length_nil] at hz;rw[show i+1+([110,110,105,105]:List Int).length=i+5 from rfl] at hb1;have hi4:=(H.hN i hi).2.1 (.inr (.inr hop))
    refine yz h (pm H sc _ _ (ay k) (i+5+1) E [] 0 hb1.2.2.1 hb2.2.1 h.1 h.2.1 (Int.le_refl _) (by omega) (fun u hu=>by cases hu)) (by omega) (by omega) fun _=>?_
    have ho:=H.hO i hi;unfold bU at ho;rw[hop] at ho;simp at ho;exact F4 ho
   rw[if_neg h17];have hao:=kN 0 [] num p H.hp H.hw E i hi1 sc;generalize cr p num E i sc=A at hao |-;obtain⟨E2,id,q,e⟩:=A;simp only at hao |-
   rcases hao with ⟨rfl,he⟩|⟨rfl,rfl,hA⟩
   ·rw[if_pos he];exact DG.refl h
   ·rw[if_neg (by simp)]
    have h2:=h.add hA
    have hs:DG p num m E (E2,fs,0):=⟨hA.gro hi1,h2.2.1,h2.2.2⟩
    split
    ·rename_i hb
     rcases hb with hb|hb
     ·rw[hb,qG] at hkV
      obtain⟨bl,hz,hbl⟩:=aP [115] k rfl hkV;obtain⟨hb1,hb2⟩:=hbl p (i+1) hkA;show DG p num m E (aW p num true k (i+1) _ E2 fs);rw[ee (p:=p) (num:=num) [115] k rfl hkV];simp only[List.length_singleton] at hz;exact hs.trans (gx H N (ay k) _ _ E2 fs (by omega) hb1.2.2.1 hb2.2.1 h2)
     ·rw[hb,qF] at hkV
      obtain⟨bl,hz,hbl⟩:=aP [115,105,105] k rfl hkV;obtain⟨hb1,hb2⟩:=hbl p (i+1) hkA;show DG p num m E (aW p num true k (i+1) _ E2 fs);rw[ee (p:=p) (num:=num) [115,105,105] k rfl hkV];simp only[List.length_cons,List.length_nil] at hz;exact hs.trans (gx H N (ay k) _ _ E2 fs (by omega) hb1.2.2.1 hb2.2.1 h2)
    ·exact hs
  rw[rJ];split
  ·exact one.trans (gx H N n _ sc _ _ (by omega) ha.2.2.2 hv.2.2 (one.pg h.1))
  ·exact one
end
set_option maxRecDepth 100000
set_option maxHeartbeats 2000000
def RegE (T:List Tb) (E:List Ent):Prop:=∀ k,k<E.length->(E.getD k eZ).op=15->RegAt T (E.getD k eZ) (cF T (E.getD k eZ) 2) (cF T (E.getD k eZ) 3) (cF T (E.getD k eZ) 4)
def fJ (p:List Nd) (T:List Tb):List Fd->List Ent->List Int->List Ent×List Int×Int
 |[],E,rs=>(E,rs,0)
 |d::fs,E,rs=>if (eK p T d d.node.toNat E rs).2.2=0 then fJ p T fs (eK p T d d.node.toNat E rs).1 (eK p T d d.node.toNat E rs).2.1 else eK p T d d.node.toNat E rs
section
variable {p:List Nd} {num:Int} {m:Nat} {T:List Tb}
theorem bG {α:Type} {l:List α} {y d:α} {k:Nat} (h:k<l.length):(l++[y]).getD k d=l.getD k d:=by
 rw[List.getD_eq_getElem?_getD,List.getElem?_append_left h,<-List.getD_eq_getElem?_getD]
theorem iW {α:Type} {l:List α} {y d:α} {j k:Nat} (h:j<l.length):(l.set j y).getD k d=if j=k then y else l.getD k d:=by
 rw[List.getD_eq_getElem?_getD,List.getElem?_set];by_cases e:j=k
 ·subst e;simp[h]
 ·simp[e,List.getD_eq_getElem?_getD]
theorem sx (sp ba ln idx dat:Int):∀ (us:List Int) (E:List Ent),(∀ u∈us,(m:Int)<=u/\u<E.length)->BitO E->Gro p num m E (fO sp ba ln idx dat us E).1/\BitO (fO sp ba ln idx dat us E).1/\(fO sp ba ln idx dat us E).1.length=E.length
 |[],E,_,hb=>⟨.refl _,hb,rfl⟩
 |u::us,E,hu,hb=>by
  have h:=hu u (by simp);rw[fO];split
  ·obtain⟨g1,g2,g3⟩:=sx sp ba ln idx dat us (E.set u.toNat (spR (E.getD u.toNat eZ) sp ba ln idx dat)) (fun v hv=>by rw[List.length_set];exact hu v (by simp[hv])) (hb.set (y:=spR (E.getD u.toNat eZ) sp ba ln idx dat) (hb u.toNat) _)
   exact⟨.spec (y:=spR (E.getD u.toNat eZ) sp ba ln idx dat) (by omega) (by omega) ⟨rfl,rfl,rfl,rfl,rfl⟩ g1,g2,by rw[g3,List.length_set]⟩
  ·exact⟨.refl _,hb,rfl⟩
def RefG (N:Nat) (rs:List Int):Prop:=∀ r∈rs,0<=r/\r<(N:Int)
theorem RefG.app {N:Nat} {a b:List Int} (h:RefG N a) (k:RefG N b):RefG N (a++b):=fun r hr=>by
 rcases List.mem_append.1 hr with e|e
 ·exact h r e
 ·exact k r e
theorem RefG.one {N k:Nat} (h:k<N):RefG N [(k:Int)]:=fun r hr=>by have:=List.mem_singleton.1 hr;omega
theorem RefG.nat {E:List Ent} {s:By} {i:Nat} {op:Int} {r:Option Nat} (h:ec p E s i op=r):RefG E.length (kp r):=by
 cases r with
 |none=>intro x hx;cases hx
 |some k=>exact RefG.one (jD h).1
theorem ly (r:Option Nat):(kp r).length<=1:=by cases r<;>simp[kp]
theorem sH {d:Fd} {i:Nat} {E:List Ent} {rs:List Int} (hd:FdOK p m E.length d) (hb:BitO E) (hr:RefG E.length rs):
 (Gro p num m E (eK p T d i E rs).1/\BitO (eK p T d i E rs).1)/\(eK p T d i E rs).1.length=E.length/\RefG E.length (eK p T d i E rs).2.1/\(eK p T d i E rs).2.1.length<=rs.length+2:=by
 unfold eK;split
 ·cases h1:ec p E d.scope (i+1) 15 with
  |none=>exact⟨⟨.refl _,hb⟩,rfl,hr,Nat.le_add_right _ _⟩
  |some k=>
   obtain⟨g1,g2,g3⟩:=sx (p:=p) (num:=num) (cF T (E.getD k eZ) 2) (cF T (E.getD k eZ) 3) (cF T (E.getD k eZ) 4) (-1) (-1) d.units E hd.units hb;exact⟨⟨g1,g2⟩,g3,hr.app (RefG.one (jD h1).1),by simp⟩
 ·cases h1:ec p E d.scope (i+1) 18 with
  |none=>
   refine⟨⟨.refl _,hb⟩,rfl,(hr.app (RefG.nat h1)).app (RefG.nat (r:=ec p E d.scope (i+2) 18) rfl),?_⟩;have:=ly (ec p E d.scope (i+2) 18);have h0:(kp (none:Option Nat)).length=0:=rfl;simp only[List.length_append];omega
  |some a=>
   cases h2:ec p E d.scope (i+2) 18 with
   |none=>exact⟨⟨.refl _,hb⟩,rfl,(hr.app (RefG.one (jD h1).1)).app (RefG.nat h2),by simp[kp]⟩
   |some c=>
    obtain⟨g1,g2,g3⟩:=sx (p:=p) (num:=num) 0 0 ((d.bits+8*ai p (i+3)-1).tdiv (8*ai p (i+3))*ai p (i+3)) a c d.units E hd.units hb;exact⟨⟨g1,g2⟩,g3,(hr.app (RefG.one (jD h1).1)).app (RefG.one (jD h2).1),by simp⟩
theorem sG:∀ (fs:List Fd) (E:List Ent) (rs:List Int),(∀ d∈fs,FdOK p m E.length d)->BitO E->RefG E.length rs->
 Gro p num m E (fJ p T fs E rs).1/\BitO (fJ p T fs E rs).1/\(fJ p T fs E rs).1.length=E.length/\RefG E.length (fJ p T fs E rs).2.1
 |[],E,rs,_,hb,hr=>⟨.refl _,hb,rfl,hr⟩
 |d::fs,E,rs,hd,hb,hr=>by
  obtain⟨⟨g1,g2⟩,g3,g4,_⟩:=sH (p:=p) (num:=num) (T:=T) (i:=d.node.toNat) (hd d (by simp)) hb hr;rw[fJ];split
  ·obtain⟨k1,k0,k2,k3⟩:=sG fs _ _ (fun x hx=>by rw[g3];exact hd x (by simp[hx])) g2 (by rw[g3];exact g4)
   rw[g3] at k2 k3;exact⟨g1.trans k1,k0,k2,k3⟩
  ·exact⟨g1,g2,g3,g4⟩
theorem EP {a b c:Int} (h:h_ a b c=false):a<=3/\b<=9223372036854775808/\c<=1048576:=by
 unfold h_ at h;simp at h;omega
theorem RegAt.same {x y:Ent} (h1:x.tab=y.tab) (h2:x.node=y.node) {a b c:Int} (h:RegAt T y a b c):RegAt T x a b c:=by
 obtain⟨⟨j,nd,e1,e2,e3,r⟩,s⟩:=h;exact⟨⟨j,nd,by rw[h1];exact e1,e2,by rw[h2];exact e3,r⟩,‹_›,‹_›,‹_›,‹_›,‹_›,‹_›⟩
theorem jr {x y:Ent} (h1:x.tab=y.tab) (h2:x.node=y.node) (o:Nat):cF T x o=cF T y o:=by unfold cF;rw[h1,h2]
theorem RegE.gro (H:PrO p) (hT:∃ j:Nat,num=1+(j:Int)/\j<T.length/\(T.getD j tZ).p=p) {E E':List Ent} (h:Gro p num m E E') (hE:RegE T E):RegE T E':=by
 induction h with
 |refl=>exact hE
 | @add E0 E1 E2 i sc q hi h _ ih=>
   refine ih ?_;obtain⟨ab,c,_,_,rfl⟩:=h.up;intro k hk ho
   rcases Nat.lt_or_ge k E0.length with e|e
   ·rw[bG e] at ho |-
    exact hE k e ho
   ·obtain rfl:k=E0.length:=by simp at hk;omega
    have hg:(E0++[dG (aL q) (p.getD i dN).op c num i]).getD E0.length eZ=dG (aL q) (p.getD i dN).op c num i:=by simp
    rw[hg] at ho |-;have ho:(p.getD i dN).op=15:=ho;obtain⟨j,e1,e2,e3⟩:=hT
    have hil:i<p.length:=by omega
    have hn:=(H.hN i hil).2.1 (.inr (.inl ho));have hr:=H.hO i hil;unfold bU at hr;rw[ho] at hr
    have h0:∀ j,0<=(p.getD j dN).int:=fun j=>cH H.hI j
    have hreg:∀ o,cF T (dG (aL q) 15 c num i) o=(p.getD (i+o) dN).int:=fun o=>by
     unfold cF;show ((T.getD (num-1).toNat tZ).p.getD (((i:Nat):Int).toNat+o) dN).int=_;rw[show (num-1).toNat=j by omega,e3];rfl
    rw[ho,hreg,hreg,hreg];have hp:=H.hp;have k2:=h0 (i+2);have k3:=h0 (i+3);have k4:=h0 (i+4);simp at hr;obtain⟨r1,r2,r3⟩:=EP hr;unfold ai at r1 r2 r3;exact⟨⟨j,i,e1,e2,rfl,⟨by rw[e3];exact hn,by omega⟩,by rw[e3],by rw[e3],by rw[e3]⟩,k2,by omega,k3,by omega,k4,by omega⟩
 | @spec E0 E2 j y hm hj hs _ ih=>
   refine ih ?_;intro k hk ho;rw[List.length_set] at hk;rw[iW hj] at ho |-;split at ho
   ·rename_i e
    subst e;rw[if_pos rfl];rw[jr hs.2.2.2.1 hs.2.2.2.2,jr hs.2.2.2.1 hs.2.2.2.2,jr hs.2.2.2.1 hs.2.2.2.2];exact RegAt.same hs.2.2.2.1 hs.2.2.2.2 (hE j hj (by rw[<-hs.2.1];exact ho))
   ·rename_i e
    rw[if_neg e];exact hE k hk ho
theorem RegE.tab {E:List Ent} (T':List Tb) (hl:T.length<=T'.length) (hT:∀ j,j<T.length->(T'.getD j tZ).p=(T.getD j tZ).p) (hE:RegE T E):RegE T' E:=by
 intro k hk ho;obtain⟨⟨j,nd,e1,e2,e3,⟨e4,e4'⟩,e5,e6,e7⟩,s0,s1,b0,b1,l0,l1⟩:=hE k hk ho
 have hreg:∀ o,cF T' (E.getD k eZ) o=cF T (E.getD k eZ) o:=fun o=>by
  unfold cF;rw[e1,show ((1:Int)+(j:Int)-1).toNat=j by omega,hT j e2]
 rw[hreg,hreg,hreg];refine⟨⟨j,nd,e1,by omega,e3,⟨by rw[hT j e2];exact e4,e4'⟩,?_,?_,?_⟩,s0,s1,b0,b1,l0,l1⟩
 ·rw[hT j e2];exact e5
 ·rw[hT j e2];exact e6
 ·rw[hT j e2];exact e7
end
set_option maxRecDepth 100000
set_option maxHeartbeats 1000000
theorem SubF.cons {i:Nat} {bl bl':Bl} {L L':Hp} (hr:bl'.ro=bl.ro) (hb:∀ φ w b,BlAt φ w b bl->BlAt φ w b bl') (h:SubF L' L):SubF ((i,some bl')::L') ((i,some bl)::L):=by
 intro j c hj;rw[ak] at hj |-;split at hj
 ·cases hj;rw[if_pos ‹_›];exact⟨bl,rfl,hr,hb⟩
 ·rw[if_neg ‹_›];exact h j c hj
theorem Cq (n:Nat):All2 SLe (rep n [S.bool false,S.int IntKind.i64 0,S.slc none 0 (some 0)]) ((List.replicate n z0).flatMap ptC):=by
 refine All2.of_get (by rw[fj,bP];simp) fun i a b ha hb=>?_
 have hi:i<n*3:=by
  rcases Nat.lt_or_ge i (rep n [S.bool false,S.int IntKind.i64 0,S.slc none 0 (some 0)]).length with h|h
  ·rwa [fj] at h
  ·rw[List.getElem?_eq_none h] at ha;cases ha
 rw[uq _ _ _ hi] at ha
 have hk:i/3<(List.replicate n z0).length:=by rw[List.length_replicate];omega
 have hg:(List.replicate n z0).getD (i/3) z0=z0:=by simp only[List.getD_eq_getElem?_getD,List.getElem?_replicate];split<;>rfl
 have hx:∀ x,(ptC z0)[i%3]? =some x->((List.replicate n z0).flatMap ptC)[i]? =some x:=fun x hx=>by
  have:=(iG (l:=List.replicate n z0) (k:=i/3) (j:=i%3) (x:=x) hk (by rw[hg];exact hx)).1
  rwa [show i/3*3+i%3=i by omega] at this
 have hm:i%3<3:=Nat.mod_lt _ (by decide);have ha:[S.bool false,S.int IntKind.i64 0,S.slc none 0 (some 0)][i%3]? =some a:=ha;generalize i%3=m at*
 match m,hm with
 |0,_=>rw[hx _ rfl] at hb;cases hb;cases ha;exact SLe.refl _
 |1,_=>rw[hx _ rfl] at hb;cases hb;cases ha;exact SLe.refl _
 |2,_=>rw[hx _ rfl] at hb;cases hb;cases ha;exact SLe.nil
def st0 (p:List Nd):St:=⟨List.replicate p.length z0,[],[],[]⟩
def anS (p:List Nd) (t:Fo):St:=aO false t 0 ⟨true,0,[]⟩ (st0 p)
theorem ny (p:List Nd) (hp:p.length<=2048) (hw:wfN p) (t:Fo) (ha:t.At p 0) (hv:t.V (List.replicate t.cnt (false,68))) (hs:t.size=p.length):
 FC Tryz.prog 115 [ae p] 0 [] (.s (.ptr (some (0,0)))) 8 (anL p (anS p t)):=by
 have hsz:(Tryz.prog.types[99]).size=3:=by kernel_rfl
 have hby:(Tryz.prog.types[99]).bytes=40:=by kernel_rfl
 generalize hU:anS p t=U;refine FC.walk (by kernel_rfl) Tryz.func115 rfl rfl ?_
 repeat'(first|exact y0|refine y1 ?_|refine y2 ?_ ?_|(refine y8 ?_ ?_<;>intro h<;>try exact y6)|refine y3 ?_|refine y7 ?_ ?_|refine y4 ?_|(refine y9 ?_ ?_<;>intro h)|exact y5|fail)
 refine RegX.opA [.idx p.length,.idx p.length] rfl rfl ?_ ?_
 ·rw[hby];exact⟨rfl,rfl,Nat.le_refl _,by omega,by omega⟩
 repeat'(first|exact y0|refine y1 ?_|refine y2 ?_ ?_|(refine y8 ?_ ?_<;>intro h<;>try exact y6)|refine RegX.mkm rfl ?_|refine y3 ?_|refine y7 ?_ ?_|refine y4 ?_|(refine y9 ?_ ?_<;>intro h)|exact y5|fail)
 refine Ex.subF (L':=[(0,some (scB (List.replicate p.length z0))),(1,some (a_ [])),(2,some {cells:=[.frz (fun k=>ndC (p.getD k dN)) 4 p.length,.slc (some (0,0)) p.length (some p.length),.row 3 4 0,.map (some 1),.row 5 6 0],ty:=186})]) ?_ ?_
 ·refine SubF.cons rfl ?_ (SubF.cons rfl ?_ (SubF.cons rfl ?_ (SubF.refl _)))
  ·exact fun φ w b h=>BlAt.cells (Cq p.length) h
  ·exact fun φ w b h=>h
  ·exact fun φ w b h=>BlAt.cells (bl:={cells:=[.frz (fun k=>ndC (p.getD k dN)) 4 p.length,.slc (some (0,0)) p.length (some p.length),.slc none 0 (some 0),.map (some 1),.slc none 0 (some 0)],ty:=186}) (cs:=[.frz (fun k=>ndC (p.getD k dN)) 4 p.length,.slc (some (0,0)) p.length (some p.length),.row 3 4 0,.map (some 1),.row 5 6 0]) ⟨SLe.refl _,SLe.refl _,SLe.nilrow,SLe.refl _,SLe.nilrow,trivial⟩ h
 refine Ex.canon [2,0,7,3,4,1,5,6] 21 [(0,ae p),(3,.s (.ptr (some (0,0)))),(4,nI 0)] (anL p (st0 p)) rfl rfl ⟨VLe.refl _,VLe.refl _,VLe.refl _,trivial⟩ ⟨rfl,rfl,rfl,trivial⟩ rfl ?_
 refine Ex.inv (σ:=Fo×Nat×St) (fun q=>[(4,nI q.2.1)]) (fun q=>anL p q.2.2)
  (fun q=>q.1.At p q.2.1/\q.1.V (List.replicate q.1.cnt (false,68))/\q.2.1+q.1.size=p.length/\q.2.2.S.length=p.length/\q.2.2.D.length<=q.2.1/\q.2.2.G.length<=q.2.1/\aO false q.1 q.2.1 ⟨true,0,[]⟩ q.2.2=U) (fun q=>q.1.size) (t,0,st0 p) rfl (fun _=>rfl) ?_ ?_ ?_ ?_
 ·exact⟨ha,hv,by simp only;omega,by simp[st0],Nat.le_refl _,Nat.le_refl _,hU⟩
 ·exact⟨VLe.refl _,trivial⟩
 ·exact⟨rfl,rfl,rfl,trivial⟩
 ·rintro⟨t,j,s⟩ ⟨t1,t2,t3,t4,t5,t6,t7⟩
  simp only at t1 t2 t3 t4 t5 t6 t7 |-
  cases t with
  |nil=>
   simp only[Fo.size,Nat.add_zero] at t3;simp only[aO] at t7;subst t7
   repeat'(first|exact y0|refine y1 ?_|refine y2 ?_ ?_|(refine y8 ?_ ?_<;>intro h<;>try exact y6)|refine y3 ?_|refine y7 ?_ ?_|refine y4 ?_|(refine y9 ?_ ?_<;>intro h)|exact y5|fail)
   all_goals try omega
   refine⟨.inl rfl,_,[0,1,2,3,4,5,6,7],VLe.refl _,EndOK.by rfl ?_ rfl ?_ rfl rfl⟩
   ·exact⟨rfl,rfl,MemP.op rfl ⟨rfl,MemP.op rfl trivial⟩⟩
   ·(unfold anL dcB dgB;generalize List.flatMap dcC _=cd;generalize List.flatMap dgC _=cg;cases cd<;>cases cg<;>rfl)
  |cons x k n=>
   simp only[Fo.size] at t3
   have hr:aO false (.cons x k n) j ⟨true,0,[]⟩ s=aO false n (j+1+k.size) ⟨true,0,[]⟩ (aO false (.cons x k .nil) j ⟨true,0,[]⟩ s):=by simp only[aO]
   rw[hr] at t7;have hl:=bh false (.cons x k .nil) j ⟨true,0,[]⟩ s;simp only[Fo.size,Nat.add_zero] at hl;have hrec:=rI p hp hw (k.size+1) x k 68 j ⟨true,0,[]⟩ s (Nat.lt_succ_self _) (.inl rfl) ⟨t1.1,t1.2.1,t1.2.2.1,trivial⟩ ⟨t2.1,t2.2.1,trivial⟩ t4 t5 t6;generalize aO false (.cons x k .nil) j ⟨true,0,[]⟩ s=s' at*
   have k2:okH 8 (anL p s)=true:=by (unfold anL dcB dgB;generalize List.flatMap dcC _=cd;generalize List.flatMap dgC _=cg;cases cd<;>cases cg<;>rfl)
   repeat'(first|exact y0|refine y1 ?_|refine y2 ?_ ?_|(refine y8 ?_ ?_<;>intro h<;>try exact y6)|(refine wC ?_;first|(refine wF 173 ?_;refine CallG.mo [0,1,2,3,4,5,6,7] hrec rfl k2 rfl rfl rfl ⟨VLe.refl _,VLe.refl _,VLe.agg ⟨SLe.refl _,SLe.refl _,SLe.nil,trivial⟩,trivial⟩ ⟨⟨rfl,_,rfl,rfl,fun h=>h⟩,⟨rfl,_,rfl,rfl,fun h=>h⟩,FitP.op rfl rfl ⟨⟨rfl,_,rfl,rfl,fun h=>h⟩,FitP.op rfl rfl trivial⟩⟩ rfl rfl (wr:=[(0,some (anB p 8 s'.D.length 10 s'.G.length)),(1,some (scB s'.S)),(3,none),(6,none),(5,some (a_ s'.F)),(8,dcB 8 s'.D),(10,dgB 10 s'.G)]) (by show [_,_,_,_,_,_,_]=_;rw[ah,ah];rfl) ?_))|refine y3 ?_|refine y7 ?_ ?_|refine y4 ?_|(refine y9 ?_ ?_<;>intro h)|exact y5|fail)
   all_goals try omega
   refine LoopR.move (n,j+1+k.size,s') ⟨t1.2.2.2,t2.2.2,by simp only;omega,by simp only;omega,by simp only;omega,by simp only;omega,t7⟩ (by simp only[Fo.size];omega) [0,1,2,8,9,5,10,11] rfl ?_ ?_ ?_
   ·repeat' (first|exact VLe.refl _|exact VLe.any _|exact True.intro|refine⟨?_,?_⟩)
   ·exact⟨rfl,rfl,MemP.op rfl ⟨rfl,MemP.op rfl trivial⟩⟩
   ·(unfold anL dcB dgB;generalize List.flatMap dcC _=cd;generalize List.flatMap dgC _=cg;cases cd<;>cases cg<;>rfl)
set_option maxRecDepth 100000
set_option maxHeartbeats 1000000
def Fo.kid:Fo->Nat->Nat->Fo
 | .nil,_,_=> .nil
 | .cons _ k n,j,i=>if i=j then k else if i<j+1+k.size then k.kid (j+1) i else n.kid (j+1+k.size) i
theorem cY {p:List Nd}:∀ {t:Fo} {j:Nat} {cs:List (Bool×Int)} {i:Nat},t.At p j->t.V cs->j<=i->i<j+t.size->∃ sl,(Fo.cons (p.getD i dN) (t.kid j i) .nil).At p i/\(Fo.cons (p.getD i dN) (t.kid j i) .nil).V [sl]
 | .nil,j,cs,i,_,_,h1,h2=>by simp only[Fo.size] at h2;omega
 | .cons x k n,j,cs,i,ha,hv,h1,h2=>by
   simp only[Fo.size] at h2;have hx:=At.get ha
   obtain⟨sl,cs',rfl,hv1,hv2,hvk⟩:∃ sl cs',cs=sl::cs'/\(Fo.cons x k .nil).V [sl]/\n.V cs'/\∃ cs2,k.V cs2:=by
    match cs,hv with
    |(true,c)::cs',⟨h1,h2,h3⟩=>exact⟨_,_,rfl,⟨h1,h2,trivial⟩,h3,_,h2⟩
    |(false,c)::cs',⟨h1,h2,h3⟩=>exact⟨_,_,rfl,⟨h1,h2,trivial⟩,h3,_,h2⟩
   unfold Fo.kid;by_cases e:i=j
   ·subst e
    rw[if_pos rfl,hx];exact⟨sl,⟨ha.1,ha.2.1,ha.2.2.1,trivial⟩,hv1⟩
   ·rw[if_neg e]
    by_cases e2:i<j+1+k.size
    ·rw[if_pos e2]
     obtain⟨cs2,hk⟩:=hvk;exact cY ha.2.2.1 hk (by omega) (by omega)
    ·rw[if_neg e2]
     exact cY ha.2.2.2 hv2 (by omega) (by omega)
theorem lx {p:List Nd} {i:Nat} {k:Fo} {sl:Bool×Int} (ha:(Fo.cons (p.getD i dN) k .nil).At p i) (hv:(Fo.cons (p.getD i dN) k .nil).V [sl]):gY p i:=by
 have hi:=At.lt ha;have hsz:=At.size_le (Nat.le_of_lt hi) ha;have hc:=Fo.cnt_le k;simp only[Fo.size] at hsz;obtain⟨b,c⟩:=sl
 have hk:∀ op,op≠4->(p.getD i dN).op=op->k.V (fG (aD op (p.getD i dN).kids).1):=by
  intro op h4 ho;cases b
  ·have:=hv.2.1;rwa [ho] at this
  ·exact absurd (ho.symm.trans hv.1.1) h4
 refine⟨hi,?_,?_,?_,?_,?_⟩
 ·rintro (e|e|e)
  ·have:k.cnt=5:=Fo.V_cnt (hk _ (by decide) e);omega
  ·have:k.cnt=4:=Fo.V_cnt (hk _ (by decide) e);omega
  ·have:k.cnt=5:=Fo.V_cnt (hk _ (by decide) e);omega
 ·rintro (e|e)
  ·have:k.cnt=4:=Fo.V_cnt (hk _ (by decide) e);omega
  ·have:k.cnt=4:=Fo.V_cnt (hk _ (by decide) e);omega
 ·rintro (e|e|e|e)
  ·have:k.cnt=2:=Fo.V_cnt (hk _ (by decide) e);omega
  ·have:k.cnt=2:=Fo.V_cnt (hk _ (by decide) e);omega
  ·have:k.cnt=2:=Fo.V_cnt (hk _ (by decide) e);omega
  ·have:k.cnt=2:=Fo.V_cnt (hk _ (by decide) e);omega
 ·rintro (e|e)
  ·have:k.cnt=1:=Fo.V_cnt (hk _ (by decide) e);omega
  ·have:k.cnt=2:=Fo.V_cnt (hk _ (by decide) e);omega
 ·intro e
  obtain⟨b',bl,g1,g2,g3⟩:=nv [105] k (i+1) rfl (hk _ (by decide) e) ha.2.2.1;have:=At.get g1;have hs:=At.size_le (Nat.le_of_lt (At.lt g1)) g1;have hb:=Fo.cnt_le bl;simp only[Fo.size] at hs;refine⟨bl.cnt,?_,?_⟩
  ·exact (congrArg Nd.kids this).trans g1.2.1
  ·simp only[List.length_cons,List.length_nil] at hs;omega
theorem wy {b r:Pth}:(bp b r).1.segs.length<=32:=by
 unfold bp;split
 ·simp[z0]
 ·rename_i h
  split
  ·have hv:aC r=true:=by
    cases e:aC r with
    |true=>rfl
    |false=>exact absurd (.inr e) h
   unfold aC at hv;simp at hv;simp only;omega
  ·split
   ·simp[z0]
   ·simp;omega
def SOK (n:Nat) (s:St):Prop:=(∀ q∈s.S,q.segs.length<=32)/\(∀ x∈s.F,x.2<n)
theorem SOK.sc {n:Nat} {s:St} (h:SOK n s) (i:Nat) {sc:Pth} (hs:sc.segs.length<=32):SOK n (s.sc i sc):=
 ⟨fun q hq=>(List.mem_or_eq_of_mem_set hq).elim (h.1 q) (fun e=>e▸hs),h.2⟩
theorem SOK.rep {n:Nat} {s:St} (h:SOK n s) (i c:Nat):SOK n (s.rep i c):=h
theorem SOK.dec {n:Nat} {s:St} (h:SOK n s) {i:Nat} (hi:i<n) (path:By) (op:Int):SOK n (s.dec i path op):=by
 refine⟨h.1,fun x hx=>?_⟩;simp only[St.dec,rK] at hx;split at hx
 ·exact h.2 x hx
 ·rcases List.mem_append.1 hx with hx|hx
  ·exact h.2 x hx
  ·simp at hx;rw[hx];exact hi
theorem SOK.head {n:Nat} {s:St} (h:SOK n s) {i:Nat} (hi:i<n) (x:Nd) (nm:Pth) {sc:Pth} (hs:sc.segs.length<=32):SOK n (dD x nm i sc s).2/\(dD x nm i sc s).1.segs.length<=32:=by
 have hj:=wy (b:=sc) (r:=nm);unfold dD;split
 ·split
  ·exact⟨h.sc i hs,hj⟩
  ·exact⟨(h.sc i hs).rep i 2,hs⟩
 ·split
  ·exact⟨h.sc i hs,hs⟩
  ·split
   ·refine⟨(h.sc i hs).dec hi _ _,?_⟩
    simp only;split
    ·exact hj
    ·exact hs
   ·exact⟨(h.sc i hs).rep i 2,hs⟩
theorem SOK.decl {p:List Nd}:∀ (m:Bool) (t:Fo) (i:Nat) (sc:Pth) (s:St),t.At p i->sc.segs.length<=32->SOK p.length s->SOK p.length (aO m t i sc s)
 |m,.nil,i,sc,s,_,_,h=>by cases m<;>exact h
 |true,.cons x k n,i,sc,s,ha,hs,h=>by
  simp only[aO];split
  ·exact SOK.decl false k (i+1) sc s ha.2.2.1 hs h
  ·exact SOK.decl true n _ sc s ha.2.2.2 hs h
 |false,.cons x k n,i,sc,s,ha,hs,h=>by
  simp only[aO];have hh:=h.head (At.lt ha) x (ew k) hs;refine SOK.decl false n _ sc _ ha.2.2.2 hs ?_;split
  ·exact SOK.decl true k _ _ _ ha.2.2.1 hh.2 hh.1
  ·exact hh.1
theorem SOK.anS {p:List Nd} {t:Fo} (ha:t.At p 0):SOK p.length (anS p t):=
 SOK.decl false t 0 _ _ ha (by simp) ⟨fun q hq=>by rw[(List.mem_replicate.1 hq).2];simp[z0],fun x hx=>by cases hx⟩
theorem jZ:∀ t:Fo,(ay t).size<=t.size
 | .nil=>Nat.le_refl _
 | .cons _ k .nil=>by simp only[ay,Fo.size];omega
 | .cons _ _ (.cons x k n)=>by
   have:=jZ (.cons x k n);simp only[ay,Fo.size] at this |-;omega
theorem eP {p:List Nd} (hp:p.length<=2048) {F:List (By×Nat)} {sc:Pth} {i:Nat} {k:Fo} {sl:Bool×Int} {G:List (Nat×Nat)} (ha:(Fo.cons (p.getD i dN) k .nil).At p i) (hv:(Fo.cons (p.getD i dN) k .nil).V [sl]):
 (eQ p F sc k i G).length<=G.length+3*2048:=by
 have hsz:=At.size_le (Nat.le_of_lt (At.lt ha)) ha;simp only[Fo.size] at hsz;have hl:=jZ k;unfold eQ;split
 ·split<;>simp
 ·split
  ·unfold gv
   split
   ·simp
   ·split
    ·simp
    ·refine Nat.le_trans (gZ _ _ _ _ _ _ _) ?_
     omega
  ·split
   ·split<;>simp
   ·split
    ·unfold qu
     have h1:=mf p (ai p (i+2)) ((ay k).size+1) (i+5) G;have h2:=cI false (ay k) (i+6) false true (gU p (ai p (i+2)) ((ay k).size+1) (i+5) G);omega
    ·simp
def fi (p:List Nd) (F:List (By×Nat)) (T:List Pth) (t:Fo):Nat->Nat->List (Nat×Nat)->List (Nat×Nat)
 |0,_,G=>G
 |c+1,i,G=>fi p F T t c (i+1) (eQ p F (T.getD i z0) (t.kid 0 i) i (if bU p i then G++[(i,4)] else G))
def aH (t:Fo):List Nat:=(List.range t.size).map fun i=>i+1+(t.kid 0 i).size
theorem wS {t:Fo} {i:Nat} (hi:i<t.size):(aH t).getD i 0=i+1+(t.kid 0 i).size:=by
 simp[aH,List.getD_eq_getElem?_getD,hi]
theorem l4 {p:List Nd} {t:Fo} {cs:List (Bool×Int)} (ha:t.At p 0) (hv:t.V cs) (hs:t.size=p.length):EOK p (aH t):=by
 refine⟨by simp[aH,hs],fun i hi=>?_⟩;obtain⟨sl,h1,_⟩:=cY (i:=i) ha hv (Nat.zero_le i) (by omega);rw[wS (by omega)];exact At.ends1 h1
def ed (t:Fo) (i:Nat):List Nat:=(List.range t.size).map fun j=>if j<i then 0 else j+1+(t.kid 0 j).size
theorem AD (t:Fo) (i:Nat):(ed t i).length=t.size:=by simp[ed]
theorem AE {t:Fo} {i j:Nat} (hj:j<t.size) (h:i<=j):(ed t i).getD j 0=j+1+(t.kid 0 j).size:=by
 simp[ed,List.getD_eq_getElem?_getD,hj];omega
theorem AF (t:Fo):ed t t.size=List.replicate t.size 0:=by
 apply List.ext_getElem
 ·simp[ed]
 ·intro j h1 h2
  simp only[ed,List.length_map,List.length_range] at h1;simp[ed,h1]
theorem wT (t:Fo):ed t 0=aH t:=by simp[ed,aH]
theorem AC {t:Fo} {i:Nat} (hi:i<t.size):(ed t (i+1)).set i (i+1+(t.kid 0 i).size)=ed t i:=by
 apply List.ext_getElem
 ·simp[ed]
 ·intro j h1 h2
  simp only[ed,List.length_map,List.length_range] at h2;rw[List.getElem_set];simp only[ed,List.getElem_map,List.getElem_range];split
  ·rename_i e;subst e;simp
  ·rename_i e
   by_cases h:j<i
   ·rw[if_pos (by omega),if_pos h]
   ·rw[if_neg (by omega),if_neg h]
set_option maxRecDepth 100000
set_option maxHeartbeats 1000000
theorem xp (x:Int):IntKind.u64.wrap x=x%18446744073709551616:=by rfl
theorem Ec (x:Int) (n:Nat) (h0:0<n) (h1:n<4611686018427387904):FC Tryz.prog 36 [nI x,nI n] 0 [] (nI (x%18446744073709551616%n)) 0 []:=by
 have hr:0<=x%18446744073709551616:=Int.emod_nonneg _ (by decide);have hr2:0<=x%18446744073709551616%n:=Int.emod_nonneg _ (by omega);have hr3:x%18446744073709551616%n<n:=Int.emod_lt_of_pos _ (by omega);have ht:(x%18446744073709551616).tmod n=x%18446744073709551616%n:=Int.tmod_eq_emod_of_nonneg hr;refine FC.walk (by kernel_rfl) Tryz.func36 rfl rfl ?_;refine Ex.seq (Ex.reg hm (RegX.chunkN 1 rfl rfl ⟨trivial,trivial⟩ (RegX.nilF (Then.normal (Ex.seq (Ex.reg hm (RegX.chunkN 1 rfl rfl ⟨trivial,trivial⟩ ?_)))))));refine RegX.opA [.num (x%18446744073709551616)] rfl rfl ⟨trivial,xp x⟩ ?_
 repeat'(first|exact y0|refine y1 ?_|refine y2 ?_ ?_|(refine y8 ?_ ?_<;>intro h<;>try exact y6)|refine Fin.int (.inl rfl) rfl ht|refine y3 ?_|refine y7 ?_ ?_|refine y4 ?_|(refine y9 ?_ ?_<;>intro h)|exact y5|fail)
 all_goals first
  |exact ac (by omega) (by omega)
  |(rw[ht];first|exact ac (by omega) (by omega)|exact aa (by omega) (by omega))
  |omega
def chF (l:List Int):S:=.frz (fun k=>[.int .i64 (l.getD k 0)]) 1 l.length
abbrev chL (l:List Int) (i:Nat):Hp:=[(0,some {cells:=[chF l,.int .i64 (i:Int)],ty:=97})]
abbrev cP:V:=.s (.ptr (some (0,0)))
theorem am (l:List Int) (hl:l.length<=20000000000000) (n:Nat) (h0:0<n) (h1:n<4611686018427387904) (i:Nat) (hi:i<=l.length):
 ∃ r i':Nat,r<n/\i'<=l.length/\FC Tryz.prog 18 [cP,nI n] 1 (chL l i) (nI r) 1 (chL l i'):=by
 rcases Nat.lt_or_ge i l.length with h|h
 ·have hm0:=Ec (l.getD i 0) n h0 h1
  have hr2:0<=l.getD i 0%18446744073709551616%n:=Int.emod_nonneg _ (by omega);have hr3:l.getD i 0%18446744073709551616%n<n:=Int.emod_lt_of_pos _ (by omega);obtain⟨r,hr⟩:=Int.eq_ofNat_of_zero_le hr2;rw[hr] at hm0 hr3;refine⟨r,i+1,by omega,h,?_⟩;unfold chL chF;refine FC.walk (by kernel_rfl) Tryz.func18 rfl rfl ?_
  have hk:(i:Int)+1-1=i:=by omega
  repeat'(first|exact y0|refine y1 ?_|refine y2 ?_ ?_|(refine y8 ?_ ?_<;>intro h<;>try exact y6)|(refine wC ?_;first|refine wF 36 (pu hm0 ?_))|refine y3 ?_|refine y7 ?_ ?_|refine y4 ?_|(refine y9 ?_ ?_<;>intro h)|exact y5|fail)
  refine RegX.chunkN 9 rfl rfl ?_ (RegX.eqv 30 (congrArg nI hk) rfl ?_)
  repeat'(first|exact y0|refine y1 ?_|refine y2 ?_ ?_|(refine y8 ?_ ?_<;>intro h<;>try exact y6)|(refine wC ?_;first|refine wF 36 (pu hm0 ?_))|refine y3 ?_|refine y7 ?_ ?_|refine y4 ?_|(refine y9 ?_ ?_<;>intro h)|exact y5|fail)
  exact⟨.inl rfl,_,[],VLe.refl _,EndOK.by rfl ⟨rfl,trivial⟩ rfl rfl rfl rfl⟩
 ·refine⟨0,i,h0,hi,?_⟩
  unfold chL chF;refine FC.walk (by kernel_rfl) Tryz.func18 rfl rfl ?_
  repeat'(first|exact y0|refine y1 ?_|refine y2 ?_ ?_|(refine y8 ?_ ?_<;>intro h<;>try exact y6)|refine y3 ?_|refine y7 ?_ ?_|refine y4 ?_|(refine y9 ?_ ?_<;>intro h)|exact y5|fail)
  exact⟨.inl rfl,_,[],VLe.refl _,EndOK.by rfl ⟨rfl,trivial⟩ rfl rfl rfl rfl⟩
theorem za (l:List Int) (hl:l.length<=20000000000000) (i:Nat) (hi:i<=l.length):
 ∃ b,(b=true↔i<l.length)/\FC Tryz.prog 46 [cP] 1 (chL l i) (bV b) 1 (chL l i):=by
 unfold chL chF
 rcases Nat.lt_or_ge i l.length with h|h
 ·refine⟨true,by simp[h],?_⟩
  refine FC.walk (by kernel_rfl) Tryz.func46 rfl rfl ?_
  repeat'(first|exact y0|refine y1 ?_|refine y2 ?_ ?_|(refine y8 ?_ ?_<;>intro h<;>try exact y6)|refine y3 ?_|refine y7 ?_ ?_|refine y4 ?_|(refine y9 ?_ ?_<;>intro h)|exact y5|fail)
  all_goals first
   |exact⟨.inl rfl,_,[],VLe.refl _,EndOK.by rfl ⟨rfl,trivial⟩ rfl rfl rfl rfl⟩
   |omega
 ·refine⟨false,by simp;omega,?_⟩
  refine FC.walk (by kernel_rfl) Tryz.func46 rfl rfl ?_
  repeat'(first|exact y0|refine y1 ?_|refine y2 ?_ ?_|(refine y8 ?_ ?_<;>intro h<;>try exact y6)|refine y3 ?_|refine y7 ?_ ?_|refine y4 ?_|(refine y9 ?_ ?_<;>intro h)|exact y5|fail)
  all_goals first
   |exact⟨.inl rfl,_,[],VLe.refl _,EndOK.by rfl ⟨rfl,trivial⟩ rfl rfl rfl rfl⟩
   |omega
theorem Eb (l:List Int):FC Tryz.prog 16 [.s (chF l)] 0 [] cP 1 (chL l 0):=by
 unfold chL chF;refine FC.walk (by kernel_rfl) Tryz.func16 rfl rfl ?_
 repeat'(first|exact y0|refine y1 ?_|refine y2 ?_ ?_|(refine y8 ?_ ?_<;>intro h<;>try exact y6)|refine y3 ?_|refine y7 ?_ ?_|refine y4 ?_|(refine y9 ?_ ?_<;>intro h)|exact y5|fail)
 all_goals exact⟨.inl rfl,_,[0],VLe.refl _,EndOK.by rfl ⟨rfl,trivial⟩ rfl rfl rfl rfl⟩
def segsL:List By:=[[65],[66],[67],[68,69,86,48],[80,87,82,48],[95,83,84,65],[77,84,88],[69,86,84],[70,49],[77]]
theorem DW (n:Nat) (hn:n<10):∃ s:By,s.length<=4/\FC Tryz.prog 37 [nI n] 0 [] (sV s) 0 []:=by
 have hm0:=Ec n 10 (by decide) (by decide);rw[show (n:Int)%18446744073709551616%(10:Nat)=(n:Nat) by omega] at hm0
 have key:∀ n:Nat,n<10->FC Tryz.prog 36 [nI n,nI (10:Nat)] 0 [] (nI n) 0 []->FC Tryz.prog 37 [nI n] 0 [] (sV (segsL.getD n [])) 0 []:=by
  intro n hn hm0
  rcases (by omega:n=0\/n=1\/n=2\/n=3\/n=4\/n=5\/n=6\/n=7\/n=8\/n=9) with rfl|rfl|rfl|rfl|rfl|rfl|rfl|rfl|rfl|rfl
  all_goals
   refine FC.walk (by kernel_rfl) Tryz.func37 rfl rfl ?_
   repeat'(first|exact y0|refine y1 ?_|refine y2 ?_ ?_|(refine y8 ?_ ?_<;>intro h<;>try exact y6)|(refine wC ?_;first|refine wF 36 (pu hm0 ?_))|refine Fin.str (.inl rfl) rfl rfl|refine y3 ?_|refine y7 ?_ ?_|refine y4 ?_|(refine y9 ?_ ?_<;>intro h)|exact y5|fail)
 refine⟨segsL.getD n [],?_,key n hn hm0⟩
 match n,hn with
 |0,_=>decide
 |1,_=>decide
 |2,_=>decide
 |3,_=>decide
 |4,_=>decide
 |5,_=>decide
 |6,_=>decide
 |7,_=>decide
 |8,_=>decide
 |9,_=>decide
theorem jw (l:List Int) (hl:l.length<=20000000000000) (i:Nat) (hi:i<=l.length):
 ∃ (s:By) (i':Nat),s.length<=5/\i'<=l.length/\FC Tryz.prog 19 [cP] 1 (chL l i) (sV s) 1 (chL l i'):=by
 obtain⟨k,i1,hk,hi1,hc1⟩:=am l hl 6 (by decide) (by decide) i hi;obtain⟨m,i2,hm2,hi2,hc2⟩:=am l hl 10 (by decide) (by decide) i1 hi1;obtain⟨s,hs,hc3⟩:=DW m hm2;by_cases h4:k=4
 ·subst h4
  refine⟨92::s,i2,by simp only[List.length_cons];omega,hi2,?_⟩;refine FC.walk (by kernel_rfl) Tryz.func19 rfl rfl ?_
  repeat'(first|exact y0|refine y1 ?_|refine y2 ?_ ?_|(refine y8 ?_ ?_<;>intro h<;>try exact y6)|(refine wC ?_;first|refine wF 18 (cm hc1 ?_)|refine wF 18 (cm hc2 ?_)|refine wF 37 (pu hc3 ?_))|refine y3 ?_|refine y7 ?_ ?_|refine y4 ?_|(refine y9 ?_ ?_<;>intro h)|exact y5|fail)
  all_goals first
   |exact⟨.inl rfl,_,[],VLe.refl _,EndOK.by rfl ⟨rfl,trivial⟩ rfl rfl rfl rfl⟩
   |omega
   |(show 1+List.length s<9223372036854775808;omega)
   |(show (1:Int)+(List.length s:Int)<=_;omega)
 ·by_cases h5:k=5
  ·subst h5
   refine⟨94::s,i2,by simp only[List.length_cons];omega,hi2,?_⟩;refine FC.walk (by kernel_rfl) Tryz.func19 rfl rfl ?_
   repeat'(first|exact y0|refine y1 ?_|refine y2 ?_ ?_|(refine y8 ?_ ?_<;>intro h<;>try exact y6)|(refine wC ?_;first|refine wF 18 (cm hc1 ?_)|refine wF 18 (cm hc2 ?_)|refine wF 37 (pu hc3 ?_))|refine y3 ?_|refine y7 ?_ ?_|refine y4 ?_|(refine y9 ?_ ?_<;>intro h)|exact y5|fail)
   all_goals first
    |exact⟨.inl rfl,_,[],VLe.refl _,EndOK.by rfl ⟨rfl,trivial⟩ rfl rfl rfl rfl⟩
    |omega
    |(show 1+List.length s<9223372036854775808;omega)
    |(show (1:Int)+(List.length s:Int)<=_;omega)
  ·have h4': ¬(k:Int)=4:=by omega
   have h5': ¬(k:Int)=5:=by omega
   refine⟨s,i2,by omega,hi2,?_⟩;refine FC.walk (by kernel_rfl) Tryz.func19 rfl rfl ?_
   repeat'(first|exact y0|refine y1 ?_|refine y2 ?_ ?_|(refine y8 ?_ ?_<;>intro h<;>try exact y6)|(refine wC ?_;first|refine wF 18 (cm hc1 ?_)|refine wF 18 (cm hc2 ?_)|refine wF 37 (pu hc3 ?_))|refine y3 ?_|refine y7 ?_ ?_|refine y4 ?_|(refine y9 ?_ ?_<;>intro h)|exact y5|fail)
   all_goals first
    |exact⟨.inl rfl,_,[],VLe.refl _,EndOK.by rfl ⟨rfl,trivial⟩ rfl rfl rfl rfl⟩
    |omega
    |(show 1+List.length s<9223372036854775808;omega)
    |(show (1:Int)+(List.length s:Int)<=_;omega)
theorem iL (l:List Int) (hl:l.length<=20000000000000) (i:Nat) (hi:i<=l.length):
 ∃ (x:Int) (i':Nat),0<=x/\i'<=l.length/\FC Tryz.prog 73 [cP] 1 (chL l i) (.s (.int .u64 x)) 1 (chL l i'):=by
 obtain⟨k,i1,hk,hi1,hc1⟩:=am l hl 8 (by decide) (by decide) i hi;obtain⟨m,i2,hm2,hi2,hc2⟩:=am l hl 1073741824 (by decide) (by decide) i1 hi1;obtain⟨m3,i3,hm3,hi3,hc3⟩:=am l hl 9 (by decide) (by decide) i1 hi1;by_cases h4:k=6
 ·subst h4
  refine⟨18446744073709551615,i1,by decide,hi1,?_⟩;refine FC.walk (by kernel_rfl) Tryz.func73 rfl rfl ?_
  repeat'(first|exact y0|refine y1 ?_|refine y2 ?_ ?_|(refine y8 ?_ ?_<;>intro h<;>try exact y6)|(refine wC ?_;first|refine wF 18 (cm hc1 ?_))|refine y3 ?_|refine y7 ?_ ?_|refine y4 ?_|(refine y9 ?_ ?_<;>intro h)|exact y5|fail)
  all_goals first
   |exact⟨.inl rfl,_,[],VLe.refl _,EndOK.by rfl ⟨rfl,trivial⟩ rfl rfl rfl rfl⟩
   |omega
 ·by_cases h5:k=7
  ·subst h5
   refine⟨(m:Int)*3,i2,by omega,hi2,?_⟩;refine FC.walk (by kernel_rfl) Tryz.func73 rfl rfl ?_
   repeat'(first|exact y0|refine y1 ?_|refine y2 ?_ ?_|(refine y8 ?_ ?_<;>intro h<;>try exact y6)|(refine wC ?_;first|refine wF 18 (cm hc1 ?_)|refine wF 18 (cm hc2 ?_))|refine y3 ?_|refine y7 ?_ ?_|refine y4 ?_|(refine y9 ?_ ?_<;>intro h)|exact y5|fail)
   all_goals first
    |exact⟨.inl rfl,_,[],VLe.refl _,EndOK.by rfl ⟨rfl,trivial⟩ rfl rfl rfl rfl⟩
    |exact ac (by omega) (by omega)
    |omega
  ·have h4': ¬(k:Int)=6:=by omega
   have h5': ¬(k:Int)=7:=by omega
   refine⟨(m3:Int),i3,by omega,hi3,?_⟩;refine FC.walk (by kernel_rfl) Tryz.func73 rfl rfl ?_
   repeat'(first|exact y0|refine y1 ?_|refine y2 ?_ ?_|(refine y8 ?_ ?_<;>intro h<;>try exact y6)|(refine wC ?_;first|refine wF 18 (cm hc1 ?_)|refine wF 18 (cm hc3 ?_))|refine y3 ?_|refine y7 ?_ ?_|refine y4 ?_|(refine y9 ?_ ?_<;>intro h)|exact y5|fail)
   all_goals first
    |exact⟨.inl rfl,_,[],VLe.refl _,EndOK.by rfl ⟨rfl,trivial⟩ rfl rfl rfl rfl⟩
    |exact ac (by omega) (by omega)
    |omega
end Go.Proofs.YtegjgpldfgjoiaaGreatDoor
