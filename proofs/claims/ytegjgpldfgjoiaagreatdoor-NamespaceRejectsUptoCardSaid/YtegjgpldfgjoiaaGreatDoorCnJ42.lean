import Derived.Test.YtegjgpldfgjoiaaGreatDoorCnJ39
import Derived.Test.YtegjgpldfgjoiaaGreatDoorCnJ38
import Derived.Test.YtegjgpldfgjoiaaGreatDoorCnJ33
set_option linter.all false
set_option maxHeartbeats 40000000
set_option maxRecDepth 100000
namespace Go.Proofs.YtegjgpldfgjoiaaGreatDoor
open Go Ab
section
variable {i:Nat}
section
variable {p:List Nd} {t:Fo} {cs:List (Bool×Int)}
def gj (p:List Nd) (t:Fo) (i k:Nat):Int:=kC (bz p t) (aS (aF t i).sc (ai (p.getD (i+1+k) dN).str).1)
def jF (p:List Nd) (t:Fo) (i:Nat):Bool:=
 if (p.getD i dN).op=16 then decide (gj p t i 0<0)||decide ((p.getD (gj p t i 0).toNat dN).op≠15)
 else if (p.getD i dN).op=17 then decide (gj p t i 0<0)||decide ((p.getD (gj p t i 0).toNat dN).op≠18)||decide (gj p t i 1<0)||decide ((p.getD (gj p t i 1).toNat dN).op≠18)
 else false
theorem fy (p:List Nd) (t:Fo):(bz p t).length=t.size:=by simp[bz]
theorem gL (hi:i<t.size):(bz p t).getD i ini=kV p t i:=by rw[Z00,wz hi];rfl
theorem DF (i:Nat):(kV p t i).sc=(aF t i).sc:=by unfold kV ot;split<;>rfl
theorem pL (i:Nat):(kV p t i).me=(aF t i).me/\(kV p t i).lo=(aF t i).lo/\(kV p t i).pa=(aF t i).pa:=by unfold kV ot;split<;>exact⟨rfl,rfl,rfl⟩
theorem Ag (p:List Nd) (t:Fo) (i k:Nat):gj p t i k= -1\/∃ q:Nat,gj p t i k=(q:Int)/\q<t.size:=by
 have:=Ah (bz p t) (aS (aF t i).sc (ai (p.getD (i+1+k) dN).str).1);rw[fy] at this;exact this
theorem Dp (hp:p.length<=2048) (hw:kO p) (hs:t.size=p.length) (hi:i<t.size) (k:Nat) {q:Nat} (hq:q=i+1+k):
 FQ 171 [mV (bz p t),hY ((bz p t).getD i ini).sc,sV (p.getD q dN).str] 0 [] (nI (gj p t i k)) 0 []:=by
 subst hq;rw[gL hi,DF];exact JN (bz p t) (by rw[fy];omega) _ (dS (iA t i)) _ (fb hw _)
theorem I1 (hp:p.length<=2048) (hw:kO p) (ha:t.At p 0) (hv:t.V cs) (hs:t.size=p.length) (hi:i<t.size):FQ 110 [al p,mV (bz p t),nI i] 0 [] (bV (jF p t i)) 0 []:=by
 have hk1:=eV hp ha hv hs hi;unfold jF;have hip:i<p.length:=aa
 have hiL:i<(bz p t).length:=by rw[fy];exact hi
 have hlead:=λk=>ko ha hv hi (k:=k)
 have hR:=λk q=>Dp (k:=k) (q:=q) hp hw hs hi
 have hB:=Ag p t i;by_cases h16:(p.getD i dN).op=16
 ·rw[if_pos h16]
  obtain⟨l1,l2,l3⟩:=hlead 0 (by rw[h16];decide);have r0:=hR 0 _ l1;have b0:=hB 0;have hkp:((t.kid 0 i).starts (i+1)).getD 0 0<p.length:=aa;generalize (t.kid 0 i).starts (i+1)=ks at*;generalize gj p t i 0=ra at*;generalize bz p t=L at*;clear hlead hR hB;refine wW Tryz.func110 ?_
  rcases b0 with rfl|⟨q,rfl,hq⟩
  ·rw[decide_eq_true ac,Z3e]
   repeat'(first|refine y1 ?_|refine y2 ?_ ?_|refine y4 λh=>?_|refine an hk1 ?_|refine an r0 ?_|refine cL (.inl rfl) rfl ?_|refine y3 ?_|exact y5|fail)
  ·have hqp:q<p.length:=aa
   rw[Z12,decide_eq_false aa,Z46]
   repeat'(first|refine y1 ?_|refine y2 ?_ ?_|refine y4 λh=>?_|refine an hk1 ?_|refine an r0 ?_|refine cL (.inl rfl) rfl ?_|refine y3 ?_|exact y5|fail)
   all_goals try first|exact l2|exact hkp|exact hiL|exact hqp|exact (decide_eq_true (by assumption)).symm|exact (decide_eq_false (λh=>h (by assumption))).symm
 ·rw[if_neg h16]
  by_cases h17:(p.getD i dN).op=17
  ·rw[if_pos h17]
   obtain⟨l1,l2,l3⟩:=hlead 0 (by rw[h17];decide);obtain⟨m1,m2,m3⟩:=hlead 1 (by rw[h17];decide);have r0:=hR 0 _ l1;have b0:=hB 0;have r1:=hR 1 _ m1;have b1:=hB 1;have hkp:((t.kid 0 i).starts (i+1)).getD 0 0<p.length:=aa;have hkp1:((t.kid 0 i).starts (i+1)).getD 1 0<p.length:=aa;generalize (t.kid 0 i).starts (i+1)=ks at*;generalize gj p t i 0=ra at*;generalize gj p t i 1=rb at*;generalize bz p t=L at*;clear hlead hR hB;refine wW Tryz.func110 ?_
   rcases b0 with rfl|⟨q,rfl,hq⟩
   ·rw[decide_eq_true ac,Z3e,Z3e,Z3e]
    repeat'(first|refine y1 ?_|refine y2 ?_ ?_|refine y4 λh=>?_|refine an hk1 ?_|refine an r0 ?_|refine an r1 ?_|refine cL (.inl rfl) rfl ?_|refine y3 ?_|exact y5|fail)
   ·have hqp:q<p.length:=aa
    rw[Z12,decide_eq_false aa,Z46]
    rcases b1 with rfl|⟨q1,rfl,hq1⟩
    ·rw[decide_eq_true (show (-1:Int)<0 by decide),Z4m,Z3e]
     repeat'(first|refine y1 ?_|refine y2 ?_ ?_|refine y4 λh=>?_|refine an hk1 ?_|refine an r0 ?_|refine an r1 ?_|refine cL (.inl rfl) rfl ?_|refine y3 ?_|exact y5|fail)
    ·have hqp1:q1<p.length:=aa
     rw[Z12,decide_eq_false (show ¬(q1:Int)<0 by omega),Z41]
     repeat'(first|refine y1 ?_|refine y2 ?_ ?_|refine y4 λh=>?_|refine an hk1 ?_|refine an r0 ?_|refine an r1 ?_|refine cL (.inl rfl) rfl ?_|refine y3 ?_|exact y5|fail)
     all_goals try first|exact l2|exact m2|exact hkp|exact hkp1|exact hiL|exact hqp|exact hqp1|(rw[decide_eq_true (p:=(p.getD q dN).op≠18) (by assumption)];rfl)|(rw[decide_eq_false (p:=(p.getD q dN).op≠18) aa,Z46];first|exact (decide_eq_true (by assumption)).symm|exact (decide_eq_false aa).symm)
  ·rw[if_neg h17]
   refine wW Tryz.func110 ?_
   repeat'(first|refine y1 ?_|refine y2 ?_ ?_|refine y4 λh=>?_|refine an hk1 ?_|refine cL (.inl rfl) rfl ?_|refine y3 ?_|exact y5|fail)
def qQ (p:List Nd) (i:Nat):List Nat->Bool
 |[]=>false
 |k::l=>if k=i then false else if (p.getD k dN).op=33\/(p.getD k dN).op=34\/(p.getD k dN).op=35 then true else qQ p i l
def po (p:List Nd) (t:Fo) (i:Nat):Bool:=if (aF t i).pa<0 then false else if (p.getD (aF t i).pa.toNat dN).op=4 then qQ p i ((t.kid 0 (aF t i).pa.toNat).starts ((aF t i).pa.toNat+1)) else false
theorem Lr (hp:p.length<=2048) (ha:t.At p 0) (hv:t.V cs) (hs:t.size=p.length) (hi:i<t.size):FQ 113 [al p,mV (bz p t),nI i] 0 [] (bV (po p t i)) 0 []:=by
 have hip:i<p.length:=aa
 have hiL:i<(bz p t).length:=by rw[fy];exact hi
 have hpa:((bz p t).getD i ini).pa=(aF t i).pa:=by rw[gL hi];exact (pL i).2.2
 unfold po
 rcases e_ ha hi with ⟨_,h2⟩|⟨m,h2,h3,h4⟩
 ·rw[h2] at hpa |-
  rw[if_pos ac];have hpa:((bz p t).getD i ini).pa= -1:=hpa;generalize bz p t=L at*;refine wW Tryz.func113 ?_
  repeat'(first|refine y1 ?_|refine y2 ?_ ?_|refine y4 λh=>?_|refine cL (.inl rfl) rfl ?_|refine y3 ?_|exact y5|fail)
 ·rw[h3] at hpa |-
  rw[if_neg aa,Z12];have hmp:m<p.length:=aa;have hk1:=eV hp ha hv hs (show m<t.size by omega)
  have hkb:∀ j∈(t.kid 0 m).starts (m+1),j<p.length:=λj hj=>by have:=(fi ha (show m<t.size by omega) hj).2.1;omega
  have hkn:((t.kid 0 m).starts (m+1)).length<=2048:=by
   have g1:=Fo.cnt_le (t.kid 0 m);have g2:=bv (t:=t) (Z08 m) aa;rw[bE];omega
  generalize (t.kid 0 m).starts (m+1)=ks at*;generalize bz p t=L at*;by_cases hop:(p.getD m dN).op=4
  ·rw[if_pos hop]
   generalize hR:qQ p i ks=R;refine wW Tryz.func113 ?_
   repeat'(first|refine RegX.eqv 14 (congrArg nI hpa) rfl ?_|refine y1 ?_|refine y2 ?_ ?_|refine y4 λh=>?_|refine y3 ?_|exact y5|fail)
   refine RegX.chunkN 7 rfl rfl ?_ (RegX.eqv 22 (congrArg nI hpa) rfl ?_)
   ·(repeat'(first|exact Z0o|exact hiL|refine And.intro ?_ ?_))
   repeat'(first|refine RegX.eqv 33 (congrArg nI hpa) rfl ?_|refine y1 ?_|refine y2 ?_ ?_|refine y4 λh=>?_|refine an hk1 ?_|refine y3 ?_|exact y5|fail)
   refine cy (σ:=Nat) (λk=>[(8,nI k)]) (λ_=>[]) (λk=>k<=ks.length/\i∈ks.drop k/\qQ p i (ks.drop k)=R) (λk=>ks.length-k) 0 rfl (λ_=>rfl) ⟨Z08 _,h4,hR⟩ aP trivial ?_;rintro k ⟨hk,hik,hI⟩
   have hkl:k<ks.length:=by
    rcases Z0a k ks.length with h|h
    ·exact h
    ·rw[Z10 h] at hik;cases hik
   have hd:ks.drop k=ks.getD k 0::ks.drop (k+1):=by
    rw[Z0k hkl,Z00,Z01 hkl];rfl
   have hgp:ks.getD k 0<p.length:=hkb _ (by rw[Z00,Z01 hkl];exact Z0s _);rw[hd] at hik hI;simp only[qQ] at hI;by_cases he:ks.getD k 0=i
   ·rw[if_pos he] at hI
    repeat'(first|refine y1 ?_|refine y2 ?_ ?_|refine y4 λh=>?_|refine cL (.inl rfl) rfl ?_|refine y3 ?_|exact y5|fail)
   ·rw[if_neg he] at hI
    have hik:=(Z0h.1 hik).resolve_left (λh=>he h.symm);by_cases hs3:(p.getD (ks.getD k 0) dN).op=33\/(p.getD (ks.getD k 0) dN).op=34\/(p.getD (ks.getD k 0) dN).op=35
    ·rw[if_pos hs3] at hI
     repeat'(first|refine y1 ?_|refine y2 ?_ ?_|refine y4 λh=>?_|refine cL (.inl rfl) rfl ?_|refine y3 ?_|exact y5|fail)
    ·rw[if_neg hs3] at hI
     repeat'(first|refine yA ?_|refine y2 ?_ ?_|refine y4 λh=>?_|exact y5|fail)
     refine dz (k+1) ⟨aa,hik,hI⟩ aa rfl ⟨bB (congrArg nI (by push_cast;rfl)),trivial⟩ trivial rfl rfl ac
  ·rw[if_neg hop]
   refine wW Tryz.func113 ?_
   repeat'(first|refine RegX.eqv 14 (congrArg nI hpa) rfl ?_|refine y1 ?_|refine y2 ?_ ?_|refine y4 λh=>?_|refine y3 ?_|exact y5|fail)
   refine RegX.chunkN 7 rfl rfl ?_ (RegX.eqv 22 (congrArg nI hpa) rfl ?_)
   ·(repeat'(first|exact Z0o|exact hiL|refine And.intro ?_ ?_))
   repeat'(first|refine y1 ?_|refine y2 ?_ ?_|refine y4 λh=>?_|refine cL (.inl rfl) rfl ?_|refine y3 ?_|exact y5|fail)
end
end
section
variable {p:List Nd} {t:Fo}
theorem yL {path:By} {m:Nat}:(d_ p t path m).isSome=true↔∃ k,k<m/\bY p t k=path:=by
 cases h:d_ p t path m with
 |none=>exact⟨λq=>(by cases q),λ⟨k,h1,h2⟩=>absurd h2 (jQ h k h1)⟩
 |some i=>exact⟨λ_=>⟨i,(gM h).1,(gM h).2.1⟩,λ_=>rfl⟩
theorem qj (s:By):∀ (l:List Inf) (i:Nat),(e8 s l i= -1/\∀ k,k<l.length->(l.getD k ini).path≠s)\/∃ k,e8 s l i=((i+k:Nat):Int)/\k<l.length/\(l.getD k ini).path=s/\∀ m,m<k->(l.getD m ini).path≠s
 |[],i=> .inl ⟨rfl,λk hk=>by simp at hk⟩
 |x::l,i=>by
  simp only[e8];by_cases h:x.path=s
  ·rw[if_pos h]
   exact .inr ⟨0,by rw[Z0p],aq,h,λm hm=>by omega⟩
  ·rw[if_neg h]
   rcases qj s l (i+1) with ⟨h1,h2⟩|⟨k,h1,h2,h3,h4⟩
   ·refine .inl ⟨h1,λk hk=>?_⟩
    cases k with
    |zero=>exact h
    |succ k=>exact h2 k (by simpa using hk)
   ·refine .inr ⟨k+1,by rw[h1,show i+1+k=i+(k+1) by omega],by simpa using h2,h3,λm hm=>?_⟩
    cases m with
    |zero=>exact h
    |succ m=>exact h4 m aa
theorem oJ {k:Nat} (hk:k<t.size):((bz p t).getD k ini).path=bY p t k:=by rw[gL hk];rfl
theorem iR (s:By):(dH (bz p t) s= -1/\∀ k,k<t.size->bY p t k≠s)\/∃ k:Nat,dH (bz p t) s=(k:Int)/\k<t.size/\bY p t k=s/\∀ m,m<k->bY p t m≠s:=by
 rcases qj s (bz p t) 0 with ⟨h1,h2⟩|⟨k,h1,h2,h3,h4⟩
 ·rw[fy] at h2
  exact .inl ⟨h1,λk hk=>by rw[<-oJ hk];exact h2 k hk⟩
 ·rw[fy] at h2
  refine .inr ⟨k,by unfold dH;rw[h1,Z0c],h2,by rw[<-oJ h2];exact h3,λm hm=>by rw[<-oJ aa];exact h4 m hm⟩
def qD (p:List Nd):List Nat->Nat->Int->Option Int
 |[],_,_=>none
 |k::l,i,bit=>if k=i then some bit else if aN p k then none else qD p l i (bit+if (p.getD k dN).op=19 then aj p (k+1) else aj p (k+2))
def oA (t:Fo) (i:Nat):Nat:=(aF t (aF t i).pa.toNat).pa.toNat
def ye (p:List Nd) (i:Nat) (len w:Int) (b:Option Int):Bool:=match b with|none=>false|some bit=>decide (8*len<((bit+aj p (i+2)-1).tdiv (8*w)+1)*(8*w))
def fP (p:List Nd) (t:Fo) (i:Nat):Bool:=
 if (p.getD i dN).op=18/\(p.getD (oA t i) dN).op=16/\jF p t (oA t i)=false/\aN p (oA t i)=false/\aN p i=false/\aN p (gj p t (oA t i) 0).toNat=false then
  ye p i (aj p ((gj p t (oA t i) 0).toNat+4)) (aj p (oA t i+2)) (qD p ((t.kid 0 (aF t i).pa.toNat).starts ((aF t i).pa.toNat+1)) i 0)
 else false
def FV (p:List Nd) (t:Fo) (i:Nat):Bool:=decide ((p.getD i dN).op=7)&&decide (aj p ((aF t i).me.toNat+2)<=aj p i)
def BU (p:List Nd) (t:Fo) (i:Nat):Bool:=decide ((p.getD i dN).op=34\/(p.getD i dN).op=35)&&decide ((aF t i).lo<0)
def K0 (p:List Nd) (t:Fo) (i:Nat):List Bool:=[false,false,kE p t i,qp p t i,aN p i,qS p i,jF p t i,fP p t i,BU p t i,FV p t i,po p t i]
def gY (p:List Nd) (t:Fo) (i:Nat):List Nat:=(List.range' 1 10).filter λk=>(K0 p t i).getD k false
def Dz (p:List Nd) (t:Fo):List (Nat×Nat):=(List.range t.size).flatMap λi=>(gY p t i).map λc=>(i,c)
end
section
variable {p:List Nd} {t:Fo}
theorem LS {f:Nat} (h:(p.getD f dN).op=16) (ho:aN p f=false):aj p (f+2)=1\/aj p (f+2)=2\/aj p (f+2)=4\/aj p (f+2)=8:=by
 unfold aN at ho
 repeat (first|rw[if_pos h] at ho|rw[if_neg aa] at ho)
 unfold jW at ho;split at ho
 ·assumption
 ·cases ho
theorem IW (hI:li p) {k:Nat} (h:(p.getD k dN).op=18) (ho:aN p k=false):1<=aj p (k+2)/\aj p (k+2)<=256:=by
 have:=ce hI (k+2);unfold aN at ho
 repeat (first|rw[if_pos h] at ho|rw[if_neg aa] at ho)
 simp at ho;unfold aj at*;omega
theorem LP {k:Nat} (h:(p.getD k dN).op=19) (ho:aN p k=false):aj p (k+1)<=8388608:=by
 unfold aN at ho
 repeat (first|rw[if_pos h] at ho|rw[if_neg aa] at ho)
 simp at ho;omega
theorem LT {q:Nat} (h:(p.getD q dN).op=15) (ho:aN p q=false):aj p (q+4)<=1048576:=by
 unfold aN at ho
 repeat (first|rw[if_pos h] at ho|rw[if_neg aa] at ho)
 simp[jf] at ho;omega
theorem LO (hp:p.length<=2048) (hw:kO p) (hI:li p) (ha:t.At p 0) (hv:t.V (List.replicate t.cnt (false,68))) (hs:t.size=p.length) {i:Nat} (hi:i<t.size):
 FQ 111 [al p,mV (bz p t),nI i] 0 [] (bV (fP p t i)) 0 []:=by
 have hip:i<p.length:=aa
 have hLl:(bz p t).length=p.length:=by rw[fy,hs]
 have hge:∀ j,0<=aj p j:=λj=>ce hI j
 by_cases h18:(p.getD i dN).op=18
 ·obtain⟨f,b,hfb,hbi,hpb,hpf,h4,hf,hib,hbf,hun⟩:=zI ha hv hi h18
  have hpi:((bz p t).getD i ini).pa=(b:Int):=by rw[gL hi];exact (pL i).2.2.trans hpb
  have hpB:((bz p t).getD b ini).pa=(f:Int):=by rw[gL aa];exact (pL b).2.2.trans hpf
  have hf0:oA t i=f:=by unfold oA;rw[hpb,Z12,hpf,Z12]
  unfold fP;rw[hf0,hpb,Z12];by_cases h16:(p.getD f dN).op=16
  ·have hno:=I1 hp hw ha hv hs (i:=f) aa
   have hrf:=wD hp hI ha hv hs (i:=f) aa;have hri:=wD hp hI ha hv hs hi;cases n1:jF p t f
   ·rw[n1] at hno
    cases n2:aN p f
    ·rw[n2,Z2f] at hrf
     cases n3:aN p i
     ·rw[n3,Z2f] at hri
      obtain⟨q,hq,hqt,hq15⟩:∃ q:Nat,gj p t f 0=(q:Int)/\q<t.size/\(p.getD q dN).op=15:=by
       unfold jF at n1;rw[if_pos h16,Z2y,decide_eq_false_iff_not,decide_eq_false_iff_not] at n1
       rcases Ag p t f 0 with h|⟨q,h1,h2⟩
       ·omega
       ·refine⟨q,h1,h2,?_⟩
        have:=n1.2;rw[h1,Z12] at this;omega
      obtain⟨l1,l2,l3⟩:=ko ha hv (i:=f) aa (k:=0) (by rw[h16];decide);have r0:=Dp (k:=0) hp hw hs (i:=f) aa l1;rw[hq] at r0 |-;rw[Z12];have hrq:=wD hp hI ha hv hs hqt;have hkf:=eV hp ha hv hs (i:=f) aa;have hkp:((t.kid 0 f).starts (f+1)).getD 0 0<p.length:=aa;have hfp:f<p.length:=aa;cases n4:aN p q
      ·rw[n4,Z2f] at hrq
       rw[if_pos ⟨h18,h16,rfl,rfl,rfl,rfl⟩];have hkb:=eV hp ha hv hs (i:=b) aa;have nf:=pO hp ha hv hs (i:=f) aa 1 (by rw[h16];decide);have nq:=pO hp ha hv hs hqt 3 (by rw[hq15];decide);have ni:=pO hp ha hv hs hi 1 (by rw[h18];decide);have hw4:=LS h16 n2;have hlen:=LT hq15 n4;have hn18:=IW hI h18 n3;have hgq:=hge (q+4)
       have hrk:∀ j,j<t.size->FQ 108 [al p,nI j] 0 [] (bV (!aN p j)) 0 []:=λj hj=>wD hp hI ha hv hs hj
       have hnk:∀ (j k:Nat),j<t.size->k<rN (p.getD j dN).op->FQ 112 [al p,nI j,nI k] 0 [] (nU (aj p (j+1+k))) 0 []:=λj k hj hk=>pO hp ha hv hs hj k hk
       have hub:∀ j∈(t.kid 0 b).starts (b+1),j<p.length:=λj hj=>by have:=(fi ha (show b<t.size by omega) hj).2.1;omega
       have hkn:((t.kid 0 b).starts (b+1)).length<=2048:=by
        have g1:=Fo.cnt_le (t.kid 0 b);have g2:=bv (t:=t) (Z08 b) aa;rw[bE];omega
       have hno':=hno;generalize hR:ye p i (aj p (q+4)) (aj p (f+2)) (qD p ((t.kid 0 b).starts (b+1)) i 0)=R;have nf:FQ 112 [al p,nI f,nI (1:Nat)] 0 [] (nU (aj p (f+2))) 0 []:=nf;have nq:FQ 112 [al p,nI q,nI (3:Nat)] 0 [] (nU (aj p (q+4))) 0 []:=nq;have ni:FQ 112 [al p,nI i,nI (1:Nat)] 0 [] (nU (aj p (i+2))) 0 []:=ni;generalize (t.kid 0 f).starts (f+1)=ks at*;generalize (t.kid 0 b).starts (b+1)=us at*;generalize bz p t=L at*;generalize aj p (f+2)=w at*;generalize aj p (q+4)=len at*;refine wW Tryz.func111 ?_
       repeat'(first|refine gH 7 (nI b) (bB (congrArg nI hpi)) rfl ?_|refine gH 8 (nI f) (bB (congrArg nI hpB)) rfl ?_|refine y1 ?_|refine y2 ?_ ?_|refine y4 λh=>?_|refine an hno ?_|refine an hrf ?_|refine an hri ?_|refine an hkf ?_|refine an r0 ?_|refine an hrq ?_|refine an hkb ?_|refine y3 ?_|exact y5|fail)
       clear hno hno' hrf hri hrq r0 hkf hkb hpi hpB;refine cy (σ:=Nat×Int) (λx=>[(10,nU x.2),(12,nI x.1)]) (λ_=>[]) (λx=>x.1<=us.length/\i∈us.drop x.1/\(0<=x.2/\x.2<=x.1*8388608)/\ye p i len w (qD p (us.drop x.1) i x.2)=R) (λx=>us.length-x.1) (0,0) rfl (λ_=>rfl) ⟨Z08 _,hib,⟨Z2l _,aq⟩,hR⟩ aP trivial ?_;rintro⟨k,bit⟩ ⟨hk,hik,⟨b1,b2⟩,hI2⟩;simp only at hk hik b1 b2 hI2 |-
       have hkl:k<us.length:=by
        rcases Z0a k us.length with h|h
        ·exact h
        ·rw[Z10 h] at hik;cases hik
       have hdr:us.drop k=us.getD k 0::us.drop (k+1):=by
        rw[Z0k hkl,Z00,Z01 hkl];rfl
       have hgm:us.getD k 0∈us:=by rw[Z00,Z01 hkl];exact Z0s _
       have hgp:=hub _ hgm;have hop2:=hun _ hgm;rw[hdr] at hik hI2;simp only[qD] at hI2;by_cases he:us.getD k 0=i
       ·rw[if_pos he] at hI2
        unfold ye at hI2;simp only at hI2;have h8:0<=8*w/\8*w<18446744073709551616/\8*w≠0:=aa;have A1:=aU (z:=bit+aj p (i+2)) aa aa;have A2:=aU (z:=bit+aj p (i+2)-1) aa aa;have A3:=aU (z:=8*w) h8.1 h8.2.1;have hQ:=zO (a:=bit+aj p (i+2)-1) (b:=8*w) aa aa;have hM:=D_ (q:=(bit+aj p (i+2)-1).tdiv (8*w)+1) hw4 aa
        have hM8:((bit+aj p (i+2)-1).tdiv (8*w)+1)*(8*w)=8*(((bit+aj p (i+2)-1).tdiv (8*w)+1)*w):=by rw[<-Int.mul_assoc,Int.mul_comm _ 8,Int.mul_assoc]
        have A4:=aU (z:=(bit+aj p (i+2)-1).tdiv (8*w)) hQ.1 aa;have A5:=aU (z:=(bit+aj p (i+2)-1).tdiv (8*w)+1) aa aa;have A6:=aU (z:=((bit+aj p (i+2)-1).tdiv (8*w)+1)*(8*w)) aa aa;have A7:=aU (z:=8*len) aa aa
        repeat'(first|refine y1 ?_|refine y2 ?_ ?_|refine y4 λh=>?_|refine an nf ?_|refine an ni ?_|refine an nq ?_|refine cL (.inl rfl) rfl ?_|refine y3 ?_|exact y5|fail)
        all_goals try first
         |exact (decide_eq_true (by first|assumption|omega)).symm.trans hI2
         |exact (decide_eq_false (by first|assumption|omega)).symm.trans hI2
       ·rw[if_neg he] at hI2
        have hik:=(Z0h.1 hik).resolve_left (λh=>he h.symm);have hru:=hrk (us.getD k 0) aa;have hge1:=hge (us.getD k 0+1);have hge2:=hge (us.getD k 0+2);cases ho:aN p (us.getD k 0)
        ·rw[ho,if_neg ac] at hI2
         rw[ho,Z2f] at hru;by_cases h19:(p.getD (us.getD k 0) dN).op=19
         ·rw[if_pos h19] at hI2
          have hnu:FQ 112 [al p,nI (us.getD k 0),nI (0:Nat)] 0 [] (nU (aj p (us.getD k 0+1))) 0 []:=hnk (us.getD k 0) 0 aa (by rw[h19];decide);have hb19:=LP h19 ho
          repeat'(first|refine yA ?_|refine y2 ?_ ?_|refine y4 λh=>?_|refine an hru ?_|refine an hnu ?_|exact y5|fail)
          refine dz (k+1,bit+aj p (us.getD k 0+1)) ⟨by simp only;omega,hik,⟨by simp only;omega,by simp only;push_cast;omega⟩,hI2⟩ (by simp only;omega) rfl ⟨ah _,bB (congrArg nI (by push_cast;rfl)),trivial⟩ trivial rfl rfl ac
         ·rw[if_neg h19] at hI2
          have h18u:=hop2.resolve_right h19;have hnu:FQ 112 [al p,nI (us.getD k 0),nI (1:Nat)] 0 [] (nU (aj p (us.getD k 0+2))) 0 []:=hnk (us.getD k 0) 1 aa (by rw[h18u];decide);have hb18:=IW hI h18u ho
          repeat'(first|refine yA ?_|refine y2 ?_ ?_|refine y4 λh=>?_|refine an hru ?_|refine an hnu ?_|exact y5|fail)
          refine dz (k+1,bit+aj p (us.getD k 0+2)) ⟨by simp only;omega,hik,⟨by simp only;omega,by simp only;push_cast;omega⟩,hI2⟩ (by simp only;omega) rfl ⟨ah _,bB (congrArg nI (by push_cast;rfl)),trivial⟩ trivial rfl rfl ac
        ·rw[ho,if_pos rfl] at hI2
         rw[ho,Z2z] at hru
         repeat'(first|refine y1 ?_|refine y2 ?_ ?_|refine y4 λh=>?_|refine an hru ?_|refine cL (.inl rfl) rfl ?_|refine y3 ?_|exact y5|fail)
         all_goals try first|omega|exact hI2
      ·rw[if_neg (by rintro⟨_,_,_,_,_,h⟩;cases h)]
       rw[n4,Z2z] at hrq;generalize (t.kid 0 f).starts (f+1)=ks at*;generalize bz p t=L at*;refine wW Tryz.func111 ?_
       repeat'(first|refine gH 7 (nI b) (bB (congrArg nI hpi)) rfl ?_|refine gH 8 (nI f) (bB (congrArg nI hpB)) rfl ?_|refine y1 ?_|refine y2 ?_ ?_|refine y4 λh=>?_|refine an hno ?_|refine an hrf ?_|refine an hri ?_|refine an hkf ?_|refine an r0 ?_|refine an hrq ?_|refine cL (.inl rfl) rfl ?_|refine y3 ?_|exact y5|fail)
     ·rw[if_neg (by rintro⟨_,_,_,_,h,_⟩;cases h)]
      rw[n3,Z2z] at hri;generalize bz p t=L at*;refine wW Tryz.func111 ?_
      repeat'(first|refine gH 7 (nI b) (bB (congrArg nI hpi)) rfl ?_|refine gH 8 (nI f) (bB (congrArg nI hpB)) rfl ?_|refine y1 ?_|refine y2 ?_ ?_|refine y4 λh=>?_|refine an hno ?_|refine an hrf ?_|refine an hri ?_|refine cL (.inl rfl) rfl ?_|refine y3 ?_|exact y5|fail)
    ·rw[if_neg (by rintro⟨_,_,_,h,_⟩;cases h)]
     rw[n2,Z2z] at hrf;generalize bz p t=L at*;refine wW Tryz.func111 ?_
     repeat'(first|refine gH 7 (nI b) (bB (congrArg nI hpi)) rfl ?_|refine gH 8 (nI f) (bB (congrArg nI hpB)) rfl ?_|refine y1 ?_|refine y2 ?_ ?_|refine y4 λh=>?_|refine an hno ?_|refine an hrf ?_|refine cL (.inl rfl) rfl ?_|refine y3 ?_|exact y5|fail)
   ·rw[if_neg (by rintro⟨_,_,h,_⟩;cases h)]
    rw[n1] at hno;generalize bz p t=L at*;refine wW Tryz.func111 ?_
    repeat'(first|refine gH 7 (nI b) (bB (congrArg nI hpi)) rfl ?_|refine gH 8 (nI f) (bB (congrArg nI hpB)) rfl ?_|refine y1 ?_|refine y2 ?_ ?_|refine y4 λh=>?_|refine an hno ?_|refine cL (.inl rfl) rfl ?_|refine y3 ?_|exact y5|fail)
  ·rw[if_neg (by rintro⟨_,h,_⟩;exact h16 h)]
   generalize bz p t=L at*;refine wW Tryz.func111 ?_
   repeat'(first|refine gH 7 (nI b) (bB (congrArg nI hpi)) rfl ?_|refine gH 8 (nI f) (bB (congrArg nI hpB)) rfl ?_|refine y1 ?_|refine y2 ?_ ?_|refine y4 λh=>?_|refine cL (.inl rfl) rfl ?_|refine y3 ?_|exact y5|fail)
 ·unfold fP
  rw[if_neg (λh=>h18 h.1)];refine wW Tryz.func111 ?_
  repeat'(first|refine y1 ?_|refine y2 ?_ ?_|refine y4 λh=>?_|refine cL (.inl rfl) rfl ?_|refine y3 ?_|exact y5|fail)
end
section
variable {i:Nat}
section
variable {p:List Nd} {t:Fo}
theorem Ce (hi:i<t.size) (hne:bY p t i≠[]):qp p t i=decide (dH (bz p t) (bY p t i)<(i:Int)):=by
 unfold qp;rw[decide_eq_true hne,Z1r,Z5t,decide_eq_true_eq,yL]
 rcases iR (p:=p) (t:=t) (bY p t i) with ⟨_,h2⟩|⟨k,h1,h2,h3,h4⟩
 all_goals grind
theorem Ik (ha:t.At p 0) (hi:i<t.size) (hd:ca (p.getD i dN).op=true):kE p t i=decide (bY p t i=[]):=by
 grind [kE,pI]
theorem Ex.cutQ {P:Program} {b:Nat} {y:Code} {env:List V} {n:Nat} {L:Hp} {R:Post} (id N n':Nat) (X:List (Nat×V)) (H:Hp) {E:List V} {ops:Array Oper} {d:Bool} (hE:gE (pT X 0 N) [] some=some E) (h:Ex P b (.region id ops d) env n L (xC b N n' X H)) (k:Ex P b y E n' H R):Ex P b (.seq (.region id ops d) y) env n L R:=Ex.seq (Ex.cut N n' X H hE h k)
def Jg (A:List Bool) (j:Nat):List Nat:=(List.range' 1 j).filter λk=>A.getD k false
theorem FI (A:List Bool) (j:Nat):Jg A (j+1)=Jg A j++if A.getD (j+1) false=true then [j+1] else []:=by
 grind [List.range'_1_concat,Jg]
theorem Ic (A:List Bool) (j:Nat):(Jg A j).length<=j:=by
 have:=Z37 (λk=>A.getD k false) (List.range' 1 j);rw[Z5e] at this;exact this
abbrev Iq (l:List Bool):Bl:={cells:=l.map S.bool,ty:=175}
theorem I6 {A:List Bool} {k:Nat} {b:Bool} (hl:k<A.length) (h:A.getD k false=b):eO false 1 (Iq A) k=some (bV b):=by
 show (match (A.map S.bool)[k]? with|some x=>some (V.s x)|none=>none)=_
 grind
theorem qx (p:List Nd) (t:Fo) (i:Nat):(gY p t i).length<=10:=by
 grind [gY]
theorem H8 (hp:p.length<=2048) (hw:kO p) (hI:li p) (ha:t.At p 0) (hv:t.V (List.replicate t.cnt (false,68))) (hs:t.size=p.length) (hi:i<t.size):
 FQ 64 [al p,mV (bz p t),nI i] 0 [] (.s (eQ (gY p t i))) 0 []:=by
 have hsz:(Tryz.prog.types[3]).size=1:=aK;have hby:(Tryz.prog.types[3]).bytes=8:=aK;have hip:i<p.length:=aa
 have hLl:(bz p t).length=p.length:=by rw[fy,hs]
 have hkc:=eV hp ha hv hs hi;have hdc:=AS (p.getD i dN).op;have hir:=wD hp hI ha hv hs hi;have hto:=Ls hp ha hv hs hi;have hnr:=I1 hp hw ha hv hs hi;have hou:=LO hp hw hI ha hv hs hi;have hun:=Lr hp ha hv hs hi
 have hsc:((bz p t).getD i ini).sc=(aF t i).sc:=by rw[gL hi];exact DF i
 have hpt:((bz p t).getD i ini).path=bY p t i:=oJ hi
 have hlo:((bz p t).getD i ini).lo=(aF t i).lo:=by rw[gL hi];exact (pL i).2.1
 have hme:((bz p t).getD i ini).me=(aF t i).me:=by rw[gL hi];exact (pL i).1
 have hfi:=wJ (bz p t) aa (bY p t i)
 have hsg:de ((bz p t).getD i ini).sc.segs:=by rw[hsc];exact dS (iA t i)
 have hdf:=Ce (p:=p) hi;have hbd:=Ik (p:=p) ha hi;have hnm:=Ao ha hv hi;have hprs:=eG (p.getD (i+1) dN).str (fb hw (i+1));have hjn:=oO ((bz p t).getD i ini).sc (ai (p.getD (i+1) dN).str).1 hsg (dC _)
 have hok:(p.getD i dN).op=10->Gw p t i=(ax ((bz p t).getD i ini).sc (ai (p.getD (i+1) dN).str).1).2:=λh=>by
  grind [Gw]
 have hks:(p.getD i dN).op=10->((t.kid 0 i).starts (i+1)).getD 0 0=i+1/\0<((t.kid 0 i).starts (i+1)).length/\i+1<p.length:=λh=>by
  grind
 have hbm:=A8 ha hv i hi
 have hnum:∀ M,M<t.size->(p.getD M dN).op=14->FQ 112 [al p,nI M,nI (1:Nat)] 0 [] (nU (aj p (M+1+1))) 0 []:=λM hM h=>pO hp ha hv hs hM 1 (by rw[h];decide)
 have hge:∀ j,0<=aj p j:=λj=>ce hI j
 have hlo2:BU p t i=(decide ((p.getD i dN).op=34\/(p.getD i dN).op=35)&&decide (((bz p t).getD i ini).lo<0)):=by unfold BU;rw[hlo]
 obtain⟨c4,hc4⟩:∃ c,c= !aN p i:=⟨_,rfl⟩
 have hc4':aN p i= !c4:=ae;rw[<-hc4] at hir;unfold gY K0;rw[hc4'];clear hc4 hc4' hlo hsc
 have hb2:kE p t i=(if (p.getD i dN).op=10 then !Gw p t i else if ca (p.getD i dN).op=true then decide (bY p t i=[]) else false):=by
  by_cases h:(p.getD i dN).op=10
  ·unfold kE;rw[if_pos h,decide_eq_true h,Z4m,Z1r]
  ·rw[if_neg h]
   split
   ·rename_i hd;exact hbd hd
   ·rename_i hd
    have hd:ca (p.getD i dN).op=false:=by cases q:ca (p.getD i dN).op<;>simp_all
    unfold kE;rw[hd,decide_eq_false h];rfl
 have hb3:qp p t i=(if ca (p.getD i dN).op=true then decide (bY p t i≠[])&&decide (dH (bz p t) (bY p t i)<(i:Int)) else false):=by
  by_cases e:bY p t i=[]
  ·unfold qp;simp[e]
  ·rw[hdf e,decide_eq_true e,Z1r,if_pos ((pI ha hi).1 e).1]
 have hx10:(p.getD i dN).op=10->ca (p.getD i dN).op=false:=λh=>by unfold ca;rw[decide_eq_false aa]
 clear hbd hdf hnm;generalize Gw p t i=ok at*;generalize kE p t i=b2 at*;generalize qp p t i=b3 at*;generalize qS p i=b5 at*;generalize jF p t i=b6 at*;generalize fP p t i=b7 at*;generalize hb8:BU p t i=b8 at*;generalize hb9:FV p t i=b9 at*;generalize po p t i=b10 at*;unfold FV at hb9;rw[<-hme] at hb9 hbm;generalize bY p t i=P at*;generalize (t.kid 0 i).starts (i+1)=ks at*;generalize bz p t=L at*;generalize dH L P=fr at*;rw[<-hpt] at hfi
 obtain⟨B2,hB2⟩:∃ B,B=(if (p.getD i dN).op=10 then !ok else false):=⟨_,rfl⟩
 refine wW Tryz.func64 ?_
 repeat'(first|refine Ex.cutS 3 159 1 [(0,al p),(1,mV L),(2,nI i),(7,.s (.slc none 0 (some 0))),(8,.s (.ptr (some (0,0))))] [(0,some (Iq [false,false,B2,false,false,false,false,false,false,false,false]))] rfl (Hold.k ?_) (Hold.k ?_)|refine y1 ?_|refine y2 ?_ ?_|refine y3 ?_|exact y5|fail)
 ·refine⟨?_⟩
  by_cases h10:(p.getD i dN).op=10
  ·obtain⟨k1,k2,k3⟩:=hks h10
   have hok:=hok h10;rw[if_pos h10] at hB2;subst hB2;rw[<-k1] at hprs hjn hok;have hkp:ks.getD 0 0<p.length:=aa;generalize ai (p.getD (ks.getD 0 0) dN).str=pp at*;obtain⟨⟨pr,pq,ps⟩,pok⟩:=pp;simp only at hjn hok;generalize ax (L.getD i ini).sc ⟨pr,pq,ps⟩=jj at*;obtain⟨⟨jr,ju,js⟩,jok⟩:=jj;simp only at hok;subst hok
   repeat'(first|refine yA ?_|refine y2 ?_ ?_|refine y4 λh=>?_|refine an hkc ?_|refine an hprs ?_|refine an hjn ?_|exact y5|fail)
   all_goals refine fH [0] rfl rfl ⟨ah _,ah _,ah _,ah _,ah _,trivial⟩ ⟨rfl,trivial⟩ rfl
  ·rw[if_neg h10] at hB2
   subst hB2
   repeat'(first|refine yA ?_|refine y2 ?_ ?_|refine y4 λh=>?_|exact y5|fail)
   all_goals refine fH [0] rfl rfl ⟨ah _,ah _,ah _,ah _,ah _,trivial⟩ ⟨rfl,trivial⟩ rfl
 refine⟨?_⟩;clear hkc hprs hjn hok hks
 repeat'(first|refine Ex.cutC 52 159 1 [(0,al p),(1,mV L),(2,nI i),(7,.s (.slc none 0 (some 0))),(8,.s (.ptr (some (0,0))))] [(0,some (Iq [false,false,b2,b3,false,false,false,false,false,false,false]))] rfl (Hold.k ?_) (Hold.k ?_)|refine y1 ?_|refine y2 ?_ ?_|refine an hdc ?_|refine y3 ?_|exact y5|fail)
 ·refine⟨?_⟩
  cases hd:ca (p.getD i dN).op
  ·rw[hd,if_neg ac] at hb3
   rw[hd,if_neg (show ¬(false=true) by decide),<-hB2] at hb2;subst hb2;subst hb3
   repeat'(first|refine yA ?_|fail)
   all_goals refine fH [0] rfl rfl ⟨ah _,ah _,ah _,ah _,ah _,trivial⟩ ⟨rfl,trivial⟩ rfl
  ·have h10: ¬(p.getD i dN).op=10:=λh=>by grind
   rw[if_neg h10] at hB2 hb2;rw[hd,if_pos rfl] at hb2 hb3;subst hB2
   by_cases hP:P=[]
   ·rw[decide_eq_true hP] at hb2
    rw[decide_eq_false (λh=>h hP),Z2c] at hb3;subst hb2;subst hb3;have hP':(L.getD i ini).path=[]:=hpt.trans hP
    repeat'(first|refine yA ?_|refine y2 ?_ ?_|refine y4 λh=>?_|exact y5|fail)
    all_goals refine fH [0] rfl rfl ⟨ah _,ah _,ah _,ah _,ah _,trivial⟩ ⟨rfl,trivial⟩ rfl
   ·rw[decide_eq_false hP] at hb2
    rw[decide_eq_true hP,Z1r] at hb3
    have hP': ¬(L.getD i ini).path=[]:=λh=>hP (hpt.symm.trans h)
    by_cases hf:fr<(i:Int)
    ·rw[decide_eq_true hf] at hb3
     subst hb2;subst hb3
     repeat'(first|refine yA ?_|refine y2 ?_ ?_|refine y4 λh=>?_|refine an hfi ?_|exact y5|fail)
     all_goals refine fH [0] rfl rfl ⟨ah _,ah _,ah _,ah _,ah _,trivial⟩ ⟨rfl,trivial⟩ rfl
    ·rw[decide_eq_false hf] at hb3
     subst hb2;subst hb3
     repeat'(first|refine yA ?_|refine y2 ?_ ?_|refine y4 λh=>?_|refine an hfi ?_|exact y5|fail)
     all_goals refine fH [0] rfl rfl ⟨ah _,ah _,ah _,ah _,ah _,trivial⟩ ⟨rfl,trivial⟩ rfl
 refine⟨?_⟩;clear hb2 hb3 hB2 hdc hfi hx10
 repeat'(first|refine Ex.cutQ 14 159 1 [(0,al p),(1,mV L),(2,nI i),(7,.s (.slc none 0 (some 0))),(8,.s (.ptr (some (0,0))))] [(0,some (Iq [false,false,b2,b3,!c4,b5,b6,b7,b8,false,false]))] rfl (Hold.k ?_) (Hold.k ?_)|refine y1 ?_|refine y2 ?_ ?_|refine an hir ?_|refine an hto ?_|refine an hnr ?_|refine an hou ?_|refine y3 ?_|exact y5|fail)
 ·refine⟨?_⟩
  clear hir hto hnr hou hun hb9 hbm hnum;by_cases h3:(p.getD i dN).op=34\/(p.getD i dN).op=35
  ·rw[decide_eq_true h3,Z1r] at hlo2
   by_cases hl:(L.getD i ini).lo<0
   ·rw[decide_eq_true hl] at hlo2
    clear hb8;subst hlo2
    repeat'(first|refine yA ?_|refine y2 ?_ ?_|refine y4 λh=>?_|exact y5|fail)
    all_goals refine fH [0] rfl rfl ⟨ah _,ah _,ah _,ah _,ah _,trivial⟩ ⟨rfl,trivial⟩ rfl
   ·rw[decide_eq_false hl] at hlo2
    clear hb8;subst hlo2
    repeat'(first|refine yA ?_|refine y2 ?_ ?_|refine y4 λh=>?_|exact y5|fail)
    all_goals refine fH [0] rfl rfl ⟨ah _,ah _,ah _,ah _,ah _,trivial⟩ ⟨rfl,trivial⟩ rfl
  ·rw[decide_eq_false h3,Z2c] at hlo2
   clear hb8;subst hlo2
   repeat'(first|refine yA ?_|refine y2 ?_ ?_|refine y4 λh=>?_|exact y5|fail)
   all_goals refine fH [0] rfl rfl ⟨ah _,ah _,ah _,ah _,ah _,trivial⟩ ⟨rfl,trivial⟩ rfl
 refine⟨?_⟩;clear hir hto hnr hou hlo2 hb8
 repeat'(first|refine Ex.cutQ 15 159 1 [(0,al p),(1,mV L),(2,nI i),(7,.s (.slc none 0 (some 0))),(8,.s (.ptr (some (0,0))))] [(0,some (Iq [false,false,b2,b3,!c4,b5,b6,b7,b8,b9,false]))] rfl (Hold.k ?_) (Hold.k ?_)|fail)
 ·refine⟨?_⟩
  have hgi:aj p i=(p.getD i dN).int:=rfl;rw[hgi] at hb9;by_cases h7:(p.getD i dN).op=7
  ·obtain⟨M,m1,m2,m3,m4⟩:=hbm (by rw[h7];decide)
   have hnM:FQ 112 [al p,nI M,nI (1:Nat)] 0 [] (nU (aj p (M+2))) 0 []:=hnum M aa m3;rw[decide_eq_true h7,Z1r,m2,Z12] at hb9;clear hun hnum hbm;by_cases h9:aj p (M+2)<=(p.getD i dN).int
   ·rw[decide_eq_true h9] at hb9
    subst hb9
    repeat'(first|refine RegX.eqv 137 (congrArg nI m2) rfl ?_|refine y1 ?_|refine y2 ?_ ?_|refine y4 λh=>?_|refine an hnM ?_|refine y3 ?_|exact y5|fail)
    all_goals refine fH [0] rfl rfl ⟨ah _,ah _,ah _,ah _,ah _,trivial⟩ ⟨rfl,trivial⟩ rfl
   ·rw[decide_eq_false h9] at hb9
    subst hb9
    repeat'(first|refine RegX.eqv 137 (congrArg nI m2) rfl ?_|refine y1 ?_|refine y2 ?_ ?_|refine y4 λh=>?_|refine an hnM ?_|refine y3 ?_|exact y5|fail)
    all_goals refine fH [0] rfl rfl ⟨ah _,ah _,ah _,ah _,ah _,trivial⟩ ⟨rfl,trivial⟩ rfl
  ·rw[decide_eq_false h7,Z2c] at hb9
   subst hb9;clear hun hnum hbm
   repeat'(first|refine yA ?_|refine y2 ?_ ?_|refine y4 λh=>?_|exact y5|fail)
   all_goals refine fH [0] rfl rfl ⟨ah _,ah _,ah _,ah _,ah _,trivial⟩ ⟨rfl,trivial⟩ rfl
 refine⟨?_⟩;clear hb9 hbm hnum
 repeat'(first|refine yA ?_|refine y2 ?_ ?_|refine an hun ?_|exact y5|fail)
 refine my [0] 159 [(7,.s (.slc none 0 (some 0))),(8,.s (.ptr (some (0,0)))),(13,nI (0+1:Nat))] [(0,some (Iq [false,false,b2,b3,!c4,b5,b6,b7,b8,b9,b10]))] rfl rfl ⟨ah _,ah _,ah _,trivial⟩ ⟨rfl,trivial⟩ rfl ?_;refine gH 7 (.s (.row 1 2 0)) (VLe.s SLe.nilrow) rfl (Ex.upN (n':=3) ac ?_);refine cy (σ:=Nat) (λj=>[(7,.s (.row 1 2 (Jg [false,false,b2,b3,!c4,b5,b6,b7,b8,b9,b10] j).length)),(13,nI (j+1:Nat))]) (λj=>[(0,some (Iq [false,false,b2,b3,!c4,b5,b6,b7,b8,b9,b10])),(1,Me 1 (Jg [false,false,b2,b3,!c4,b5,b6,b7,b8,b9,b10] j))]) (λj=>j<=10) (λj=>10-j) 0 rfl (λ_=>rfl) (Z08 _) aP ⟨rfl,trivial⟩ ?_;intro j hj;by_cases hj10:j<10
 ·have hDs:=FI [false,false,b2,b3,!c4,b5,b6,b7,b8,b9,b10] j
  have hDl:=Ic [false,false,b2,b3,!c4,b5,b6,b7,b8,b9,b10] j
  have hcat:bU 0 (bQ (j+1) (Tryz.prog.types[4]).size)=j+1:=by rw[show (Tryz.prog.types[4]).size=1 by kernel_rfl,ak,ao];omega
  have hsb:(Tryz.prog.types[4]).size=1:=aK;generalize Jg [false,false,b2,b3,!c4,b5,b6,b7,b8,b9,b10] j=D at*;cases hb:[false,false,b2,b3,!c4,b5,b6,b7,b8,b9,b10].getD (j+1) false
  ·rw[hb,if_neg ac,Z0u] at hDs
   repeat'(first|refine y1 ?_|refine y2 ?_ ?_|refine y4 λh=>?_|refine RegX.chunkN 2 rfl rfl ?_ (gG [.ldv (bV false)] rfl rfl ?_ rfl ?_)|refine y3 ?_|exact y5|fail)
   all_goals try (show eO false _ (Iq [false,false,b2,b3,!c4,b5,b6,b7,b8,b9,b10]) _=_;rw[hcat,hsb];exact I6 (show j+1<11 by omega) hb)
   refine dz (j+1) aa aa rfl ⟨bB (by rw[hDs];rfl),bB (congrArg nI ae),trivial⟩ ⟨rfl,fF (by rw[hDs];rfl) trivial⟩ rfl ?_ ac
   unfold Me;generalize List.flatMap _ _=cg;cases cg<;>rfl
  ·rw[hb,if_pos rfl] at hDs
   repeat'(first|refine y1 ?_|refine y2 ?_ ?_|refine y4 λh=>?_|refine RegX.chunkN 2 rfl rfl ?_ (gG [.ldv (bV true)] rfl rfl ?_ rfl ?_)|refine gZ (i:=1) (g:=2) (m:=D.length) (w:=1) (cs:=D.flatMap λj=>[S.int .i64 ((j:Nat):Int)]) (foot:=[3]) (k:=1) (add:=[S.int .i64 ((j+1:Nat):Int)]) rfl rfl (by rw[EF];omega) rfl rfl rfl rfl rfl rfl rfl hsz ac rfl ⟨Z02 _,rfl⟩ ac aq rfl (by rw[hby];omega) aa rfl ?_|refine y3 ?_|exact y5|fail)
   all_goals try (show eO false _ (Iq [false,false,b2,b3,!c4,b5,b6,b7,b8,b9,b10]) _=_;rw[hcat,hsb];exact I6 (show j+1<11 by omega) hb)
   refine fX (j+1) aa aa [0,4,5] rfl ?_ ?_ ?_
   ·rw[hDs]
    repeat'(first|exact ah _|exact dd _|exact Z0o|(refine bB (congrArg V.s (?_:S.row 4 5 _=S.row 4 5 _));simp;done)|refine⟨?_,?_⟩)
   ·rw[hDs]
    refine⟨rfl,bh ?_ trivial⟩;rw[Z0r];rfl
   ·rw[hDs];unfold Me;generalize List.flatMap _ _=cg;cases cg<;>rfl
 ·have hj':j=10:=aa
  subst hj';generalize hD:Jg [false,false,b2,b3,!c4,b5,b6,b7,b8,b9,b10] 10=D at*;have hD':(List.filter (λk=>[false,false,b2,b3,!c4,b5,b6,b7,b8,b9,b10].getD k false) (List.range' 1 10))=D:=hD;rw[hD']
  repeat'(first|refine y1 ?_|refine y2 ?_ ?_|refine y4 λh=>?_|refine Ex.fzR 6 (λj=>[S.int .i64 ((j:Nat):Int)]) 1 0 D rfl rfl (λ_=>rfl) (λa j x h=>ws h) ac rfl rfl ?_|refine dv (.inl rfl) rfl (ah _) rfl|refine y3 ?_|exact y5|fail)
end
end
section
variable {p:List Nd} {t:Fo}
def lE (p:List Nd) (t:Fo) (n:Nat):Dgs:=(List.range n).flatMap λi=>(gY p t i).map λc=>(i,c)
theorem pG (n:Nat):lE p t (n+1)=lE p t n++(gY p t n).map λc=>(n,c):=by
 unfold lE;rw[Z3a,Z0r];simp
theorem mM:∀ n:Nat,(lE p t n).length<=10*n
 |0=>Z02 _
 |n+1=>by
  have:=mM n;have h:=qx p t n;rw[pG,Z03,Z0z];omega
theorem Ia (p:List Nd) (hw:kO p) (h:eR p=false):FQ 23 [al p] 0 [] (oC [(0,1)]) 0 []:=by
 have hv:=kP p hw;rw[h] at hv;refine wW Tryz.func23 ?_
 repeat'(first|refine y1 ?_|refine y2 ?_ ?_|refine an hv ?_|refine Ex.fz 2 (λk=>cv ([(0,1)].getD k (0,0))) 2 rfl rfl rfl rfl (λ_ _=>rfl) (λk j x hk hx=>ue hk hx) rfl rfl ?_|refine dv (.inl rfl) rfl (ah _) rfl|refine y3 ?_|exact y5|fail)
theorem FF (hp:p.length<=2048) (hw:kO p) (hI:li p) (h:eR p=true) (ha:t.At p 0) (hv:t.V (List.replicate t.cnt (false,68))) (hs:t.size=p.length):
 FQ 23 [al p] 0 [] (oC (Dz p t)) 0 []:=by
 have hsz:(Tryz.prog.types[112]).size=2:=aK;have hby:(Tryz.prog.types[112]).bytes=16:=aK;have hvl:=kP p hw;rw[h] at hvl;have hin:=HO p hp hw t ha hv hs
 have hcd:=λi (hi:i<t.size)=>H8 hp hw hI ha hv hs hi
 show FQ 23 [al p] 0 [] (oC (lE p t t.size)) 0 [];rw[hs];generalize bz p t=L at*;refine wW Tryz.func23 ?_
 repeat'(first|refine yA ?_|refine y2 ?_ ?_|refine an hvl ?_|refine an hin ?_|exact y5|fail)
 refine gH 3 (.s (.row 0 1 0)) (VLe.s SLe.nilrow) rfl (Ex.upN (n':=2) aa ?_);refine cy (σ:=Nat) (λi=>[(3,.s (.row 0 1 (lE p t i).length)),(5,nI i)]) (λi=>[(0,bM 0 (lE p t i))]) (λi=>i<=p.length) (λi=>p.length-i) 0 rfl (λ_=>rfl) (Z08 _) aP trivial ?_;intro i hi;by_cases hlt:i<p.length
 ·have hc:=hcd i aa
  have hl10:=qx p t i;have hsu:=pG (p:=p) (t:=t) i;have hgl:=mM (p:=p) (t:=t) i;generalize gY p t i=cs at*;generalize lE p t i=Gi at*
  repeat'(first|refine yA ?_|refine y2 ?_ ?_|refine y4 λh=>?_|refine an hc ?_|exact y5|fail)
  refine cy (σ:=Nat) (λk=>[(3,.s (.row 0 1 (Gi++(cs.take k).map λc=>(i,c)).length)),(7,nI k)]) (λk=>[(0,bM 0 (Gi++(cs.take k).map λc=>(i,c)))]) (λk=>k<=cs.length) (λk=>cs.length-k) 0 rfl (λ_=>rfl) (Z08 _) ⟨bB aq,ah _,trivial⟩ (fF (by simp;rfl) trivial) ?_;intro k hk;by_cases hkl:k<cs.length
  ·have hts:(Gi++(cs.take (k+1)).map λc=>(i,c))=(Gi++(cs.take k).map λc=>(i,c))++[(i,cs.getD k 0)]:=by
    rw[Z49,Z01 hkl,Z00,Z01 hkl,Z0d,Z14];rfl
   have hgk:(Gi++(cs.take k).map λc=>(i,c)).length<=10*i+10:=by rw[Z03,Z0z,Z19];omega
   generalize hGG:(Gi++(cs.take k).map λc=>(i,c))=G at*;have hfl:(G.flatMap cv).length=G.length*2:=kK (g:=cv) (w:=2) (λ_=>rfl) G
   repeat'(first|refine y1 ?_|refine y2 ?_ ?_|refine y4 λh=>?_|refine gZ (i:=0) (g:=1) (m:=G.length) (w:=2) (cs:=G.flatMap cv) (foot:=[2]) (k:=1) (add:=cv (i,cs.getD k 0)) rfl rfl hfl rfl rfl rfl rfl rfl rfl rfl hsz ac rfl ⟨Z02 _,rfl⟩ ac (by simp[cv]) rfl (by rw[hby];omega) aa rfl ?_|refine y3 ?_|exact y5|fail)
   refine fX (k+1) aa aa [3,4] rfl ?_ ?_ ?_
   ·rw[hts]
    repeat'(first|exact ah _|exact dd _|exact Z0o|(refine bB (congrArg V.s (?_:S.row 3 4 _=S.row 3 4 _));simp;done)|refine⟨?_,?_⟩)
   ·rw[hts]
    refine bh ?_ trivial;rw[Z0r];rfl
   ·rw[hts];unfold bM;generalize List.flatMap _ _=cg;cases cg<;>rfl
  ·rw[Z1l aa,<-hsu]
   repeat'(first|refine yA ?_|refine y2 ?_ ?_|refine y4 λh=>?_|exact y5|fail)
   refine dz (i+1) aa aa rfl ⟨ah _,bB (congrArg nI (by push_cast;rfl)),trivial⟩ (fF rfl trivial) rfl ?_ ac
   unfold bM;generalize List.flatMap _ _=cg;cases cg<;>rfl
 ·have hi':i=p.length:=aa
  subst hi';generalize lE p t p.length=G at*
  repeat'(first|refine y1 ?_|refine y2 ?_ ?_|refine y4 λh=>?_|refine Ex.fzR 2 cv 2 (0,0) G rfl rfl (λ_=>rfl) (λa j x h=>H6 h) ac rfl rfl ?_|refine dv (.inl rfl) rfl (ah _) rfl|refine y3 ?_|exact y5|fail)
end
