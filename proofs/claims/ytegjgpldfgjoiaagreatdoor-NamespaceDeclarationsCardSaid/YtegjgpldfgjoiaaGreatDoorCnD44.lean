import Derived.Test.YtegjgpldfgjoiaaGreatDoorCnD34
import Derived.Test.YtegjgpldfgjoiaaGreatDoorCnD40
set_option linter.all false
set_option maxHeartbeats 40000000
set_option maxRecDepth 100000
namespace Go.Proofs.YtegjgpldfgjoiaaGreatDoor
open Go Ab
section
variable {i:Nat}
section
variable {p:List Nd} {t:Fo} {cs:List (Bool×Int)}
def eY (p:List Nd) (t:Fo) (i k:Nat):Int:=jc (be p t) (aU (aD t i).sc (ak (p.getD (i+1+k) dN).str).1)
def iq (p:List Nd) (t:Fo) (i:Nat):Bool:=
 if (p.getD i dN).op=16 then decide (eY p t i 0<0)||decide ((p.getD (eY p t i 0).toNat dN).op≠15)
 else if (p.getD i dN).op=17 then decide (eY p t i 0<0)||decide ((p.getD (eY p t i 0).toNat dN).op≠18)||decide (eY p t i 1<0)||decide ((p.getD (eY p t i 1).toNat dN).op≠18)
 else false
theorem dP (p:List Nd) (t:Fo):(be p t).length=t.size:=by simp[be]
theorem fA (hi:i<t.size):(be p t).getD i ini=jZ p t i:=by rw[Z00,AH hi];rfl
theorem zM (i:Nat):(jZ p t i).sc=(aD t i).sc:=by unfold jZ r9;split<;>rfl
theorem mZ (i:Nat):(jZ p t i).me=(aD t i).me/\(jZ p t i).lo=(aD t i).lo/\(jZ p t i).pa=(aD t i).pa:=by unfold jZ r9;split<;>exact⟨rfl,rfl,rfl⟩
theorem vS (p:List Nd) (t:Fo) (i k:Nat):eY p t i k= -1\/∃ q:Nat,eY p t i k=(q:Int)/\q<t.size:=by
 have:=vT (be p t) (aU (aD t i).sc (ak (p.getD (i+1+k) dN).str).1);rw[dP] at this;exact this
theorem zu (hp:p.length<=2048) (hw:tX p) (hs:t.size=p.length) (hi:i<t.size) (k:Nat) {q:Nat} (hq:q=i+1+k):
 FQ 171 [lh (be p t),jh ((be p t).getD i ini).sc,sV (p.getD q dN).str] 0 [] (nI (eY p t i k)) 0 []:=by
 subst hq;rw[fA hi,zM];exact Fz (be p t) (by rw[dP];omega) _ (fS (nT t i)) _ (l_ hw _)
theorem EM (hp:p.length<=2048) (hw:tX p) (ha:t.At p 0) (hv:t.V cs) (hs:t.size=p.length) (hi:i<t.size):FQ 110 [ao p,lh (be p t),nI i] 0 [] (bV (iq p t i)) 0 []:=by
 have hk1:=fJ hp ha hv hs hi;unfold iq;have hip:i<p.length:=aa
 have hiL:i<(be p t).length:=by rw[dP];exact hi
 have hlead:=λk=>iW ha hv hi (k:=k)
 have hR:=λk q=>zu (k:=k) (q:=q) hp hw hs hi
 have hB:=vS p t i;by_cases h16:(p.getD i dN).op=16
 ·rw[if_pos h16]
  obtain⟨l1,l2,l3⟩:=hlead 0 (by rw[h16];decide);have r0:=hR 0 _ l1;have b0:=hB 0;have hkp:((t.kid 0 i).starts (i+1)).getD 0 0<p.length:=aa;generalize (t.kid 0 i).starts (i+1)=ks at*;generalize eY p t i 0=ra at*;generalize be p t=L at*;clear hlead hR hB;refine wW Tryz.func110 ?_
  rcases b0 with rfl|⟨q,rfl,hq⟩
  ·rw[decide_eq_true ac,Z3e]
   repeat'(first|refine y1 ?_|refine y2 ?_ ?_|refine y4 λh=>?_|refine an hk1 ?_|refine an r0 ?_|refine cJ (.inl rfl) rfl ?_|refine y3 ?_|exact y5|fail)
  ·have hqp:q<p.length:=aa
   rw[Z12,decide_eq_false aa,Z46]
   repeat'(first|refine y1 ?_|refine y2 ?_ ?_|refine y4 λh=>?_|refine an hk1 ?_|refine an r0 ?_|refine cJ (.inl rfl) rfl ?_|refine y3 ?_|exact y5|fail)
   all_goals try first|exact l2|exact hkp|exact hiL|exact hqp|exact (decide_eq_true (by assumption)).symm|exact (decide_eq_false (λh=>h (by assumption))).symm
 ·rw[if_neg h16]
  by_cases h17:(p.getD i dN).op=17
  ·rw[if_pos h17]
   obtain⟨l1,l2,l3⟩:=hlead 0 (by rw[h17];decide);obtain⟨m1,m2,m3⟩:=hlead 1 (by rw[h17];decide);have r0:=hR 0 _ l1;have b0:=hB 0;have r1:=hR 1 _ m1;have b1:=hB 1;have hkp:((t.kid 0 i).starts (i+1)).getD 0 0<p.length:=aa;have hkp1:((t.kid 0 i).starts (i+1)).getD 1 0<p.length:=aa;generalize (t.kid 0 i).starts (i+1)=ks at*;generalize eY p t i 0=ra at*;generalize eY p t i 1=rb at*;generalize be p t=L at*;clear hlead hR hB;refine wW Tryz.func110 ?_
   rcases b0 with rfl|⟨q,rfl,hq⟩
   ·rw[decide_eq_true ac,Z3e,Z3e,Z3e]
    repeat'(first|refine y1 ?_|refine y2 ?_ ?_|refine y4 λh=>?_|refine an hk1 ?_|refine an r0 ?_|refine an r1 ?_|refine cJ (.inl rfl) rfl ?_|refine y3 ?_|exact y5|fail)
   ·have hqp:q<p.length:=aa
    rw[Z12,decide_eq_false aa,Z46]
    rcases b1 with rfl|⟨q1,rfl,hq1⟩
    ·rw[decide_eq_true (show (-1:Int)<0 by decide),Z4m,Z3e]
     repeat'(first|refine y1 ?_|refine y2 ?_ ?_|refine y4 λh=>?_|refine an hk1 ?_|refine an r0 ?_|refine an r1 ?_|refine cJ (.inl rfl) rfl ?_|refine y3 ?_|exact y5|fail)
    ·have hqp1:q1<p.length:=aa
     rw[Z12,decide_eq_false (show ¬(q1:Int)<0 by omega),Z41]
     repeat'(first|refine y1 ?_|refine y2 ?_ ?_|refine y4 λh=>?_|refine an hk1 ?_|refine an r0 ?_|refine an r1 ?_|refine cJ (.inl rfl) rfl ?_|refine y3 ?_|exact y5|fail)
     all_goals try first|exact l2|exact m2|exact hkp|exact hkp1|exact hiL|exact hqp|exact hqp1|(rw[decide_eq_true (p:=(p.getD q dN).op≠18) (by assumption)];rfl)|(rw[decide_eq_false (p:=(p.getD q dN).op≠18) aa,Z46];first|exact (decide_eq_true (by assumption)).symm|exact (decide_eq_false aa).symm)
  ·rw[if_neg h17]
   refine wW Tryz.func110 ?_
   repeat'(first|refine y1 ?_|refine y2 ?_ ?_|refine y4 λh=>?_|refine an hk1 ?_|refine cJ (.inl rfl) rfl ?_|refine y3 ?_|exact y5|fail)
def oC (p:List Nd) (i:Nat):List Nat->Bool
 |[]=>false
 |k::l=>if k=i then false else if (p.getD k dN).op=33\/(p.getD k dN).op=34\/(p.getD k dN).op=35 then true else oC p i l
def mK (p:List Nd) (t:Fo) (i:Nat):Bool:=if (aD t i).pa<0 then false else if (p.getD (aD t i).pa.toNat dN).op=4 then oC p i ((t.kid 0 (aD t i).pa.toNat).starts ((aD t i).pa.toNat+1)) else false
theorem Hb (hp:p.length<=2048) (ha:t.At p 0) (hv:t.V cs) (hs:t.size=p.length) (hi:i<t.size):FQ 113 [ao p,lh (be p t),nI i] 0 [] (bV (mK p t i)) 0 []:=by
 have hip:i<p.length:=aa
 have hiL:i<(be p t).length:=by rw[dP];exact hi
 have hpa:((be p t).getD i ini).pa=(aD t i).pa:=by rw[fA hi];exact (mZ i).2.2
 unfold mK
 rcases dH ha hi with ⟨_,h2⟩|⟨m,h2,h3,h4⟩
 ·rw[h2] at hpa |-
  rw[if_pos ac];have hpa:((be p t).getD i ini).pa= -1:=hpa;generalize be p t=L at*;refine wW Tryz.func113 ?_
  repeat'(first|refine y1 ?_|refine y2 ?_ ?_|refine y4 λh=>?_|refine cJ (.inl rfl) rfl ?_|refine y3 ?_|exact y5|fail)
 ·rw[h3] at hpa |-
  rw[if_neg aa,Z12];have hmp:m<p.length:=aa;have hk1:=fJ hp ha hv hs (show m<t.size by omega)
  have hkb:∀ j∈(t.kid 0 m).starts (m+1),j<p.length:=λj hj=>by have:=(ee ha (show m<t.size by omega) hj).2.1;omega
  have hkn:((t.kid 0 m).starts (m+1)).length<=2048:=by
   have g1:=Fo.cnt_le (t.kid 0 m);have g2:=bC (t:=t) (Z08 m) aa;rw[bH];omega
  generalize (t.kid 0 m).starts (m+1)=ks at*;generalize be p t=L at*;by_cases hop:(p.getD m dN).op=4
  ·rw[if_pos hop]
   generalize hR:oC p i ks=R;refine wW Tryz.func113 ?_
   repeat'(first|refine RegX.eqv 14 (congrArg nI hpa) rfl ?_|refine y1 ?_|refine y2 ?_ ?_|refine y4 λh=>?_|refine y3 ?_|exact y5|fail)
   refine RegX.chunkN 7 rfl rfl ?_ (RegX.eqv 22 (congrArg nI hpa) rfl ?_)
   ·(repeat'(first|exact Z0o|exact hiL|refine And.intro ?_ ?_))
   repeat'(first|refine RegX.eqv 33 (congrArg nI hpa) rfl ?_|refine y1 ?_|refine y2 ?_ ?_|refine y4 λh=>?_|refine an hk1 ?_|refine y3 ?_|exact y5|fail)
   refine cD (σ:=Nat) (λk=>[(8,nI k)]) (λ_=>[]) (λk=>k<=ks.length/\i∈ks.drop k/\oC p i (ks.drop k)=R) (λk=>ks.length-k) 0 rfl (λ_=>rfl) ⟨Z08 _,h4,hR⟩ bc trivial ?_;rintro k ⟨hk,hik,hI⟩
   have hkl:k<ks.length:=by
    rcases Z0a k ks.length with h|h
    ·exact h
    ·rw[Z10 h] at hik;cases hik
   have hd:ks.drop k=ks.getD k 0::ks.drop (k+1):=by
    rw[Z0k hkl,Z00,Z01 hkl];rfl
   have hgp:ks.getD k 0<p.length:=hkb _ (by rw[Z00,Z01 hkl];exact Z0s _);rw[hd] at hik hI;simp only[oC] at hI;by_cases he:ks.getD k 0=i
   ·rw[if_pos he] at hI
    repeat'(first|refine y1 ?_|refine y2 ?_ ?_|refine y4 λh=>?_|refine cJ (.inl rfl) rfl ?_|refine y3 ?_|exact y5|fail)
   ·rw[if_neg he] at hI
    have hik:=(Z0h.1 hik).resolve_left (λh=>he h.symm);by_cases hs3:(p.getD (ks.getD k 0) dN).op=33\/(p.getD (ks.getD k 0) dN).op=34\/(p.getD (ks.getD k 0) dN).op=35
    ·rw[if_pos hs3] at hI
     repeat'(first|refine y1 ?_|refine y2 ?_ ?_|refine y4 λh=>?_|refine cJ (.inl rfl) rfl ?_|refine y3 ?_|exact y5|fail)
    ·rw[if_neg hs3] at hI
     repeat'(first|refine yA ?_|refine y2 ?_ ?_|refine y4 λh=>?_|exact y5|fail)
     refine dT (k+1) ⟨aa,hik,hI⟩ aa rfl ⟨bp (congrArg nI (by push_cast;rfl)),trivial⟩ trivial rfl rfl ac
  ·rw[if_neg hop]
   refine wW Tryz.func113 ?_
   repeat'(first|refine RegX.eqv 14 (congrArg nI hpa) rfl ?_|refine y1 ?_|refine y2 ?_ ?_|refine y4 λh=>?_|refine y3 ?_|exact y5|fail)
   refine RegX.chunkN 7 rfl rfl ?_ (RegX.eqv 22 (congrArg nI hpa) rfl ?_)
   ·(repeat'(first|exact Z0o|exact hiL|refine And.intro ?_ ?_))
   repeat'(first|refine y1 ?_|refine y2 ?_ ?_|refine y4 λh=>?_|refine cJ (.inl rfl) rfl ?_|refine y3 ?_|exact y5|fail)
end
end
section
variable {p:List Nd} {t:Fo}
theorem nC {path:By} {m:Nat}:(dt p t path m).isSome=true↔∃ k,k<m/\aV p t k=path:=by
 cases h:dt p t path m with
 |none=>exact⟨λq=>(by cases q),λ⟨k,h1,h2⟩=>absurd h2 (iF h k h1)⟩
 |some i=>exact⟨λ_=>⟨i,(fB h).1,(fB h).2.1⟩,λ_=>rfl⟩
theorem nE (s:By):∀ (l:List Inf) (i:Nat),(d8 s l i= -1/\∀ k,k<l.length->(l.getD k ini).path≠s)\/∃ k,d8 s l i=((i+k:Nat):Int)/\k<l.length/\(l.getD k ini).path=s/\∀ m,m<k->(l.getD m ini).path≠s
 |[],i=> .inl ⟨rfl,λk hk=>by simp at hk⟩
 |x::l,i=>by
  simp only[d8];by_cases h:x.path=s
  ·rw[if_pos h]
   exact .inr ⟨0,by rw[Z0p],av,h,λm hm=>by omega⟩
  ·rw[if_neg h]
   rcases nE s l (i+1) with ⟨h1,h2⟩|⟨k,h1,h2,h3,h4⟩
   ·refine .inl ⟨h1,λk hk=>?_⟩
    cases k with
    |zero=>exact h
    |succ k=>exact h2 k (by simpa using hk)
   ·refine .inr ⟨k+1,by rw[h1,show i+1+k=i+(k+1) by omega],by simpa using h2,h3,λm hm=>?_⟩
    cases m with
    |zero=>exact h
    |succ m=>exact h4 m aa
theorem jV {k:Nat} (hk:k<t.size):((be p t).getD k ini).path=aV p t k:=by rw[fA hk];rfl
theorem gF (s:By):(dd (be p t) s= -1/\∀ k,k<t.size->aV p t k≠s)\/∃ k:Nat,dd (be p t) s=(k:Int)/\k<t.size/\aV p t k=s/\∀ m,m<k->aV p t m≠s:=by
 rcases nE s (be p t) 0 with ⟨h1,h2⟩|⟨k,h1,h2,h3,h4⟩
 ·rw[dP] at h2
  exact .inl ⟨h1,λk hk=>by rw[<-jV hk];exact h2 k hk⟩
 ·rw[dP] at h2
  refine .inr ⟨k,by unfold dd;rw[h1,Z0c],h2,by rw[<-jV h2];exact h3,λm hm=>by rw[<-jV aa];exact h4 m hm⟩
def od (p:List Nd):List Nat->Nat->Int->Option Int
 |[],_,_=>none
 |k::l,i,bit=>if k=i then some bit else if aJ p k then none else od p l i (bit+if (p.getD k dN).op=19 then ai p (k+1) else ai p (k+2))
def l8 (t:Fo) (i:Nat):Nat:=(aD t (aD t i).pa.toNat).pa.toNat
def uu (p:List Nd) (i:Nat) (len w:Int) (b:Option Int):Bool:=match b with|none=>false|some bit=>decide (8*len<((bit+ai p (i+2)-1).tdiv (8*w)+1)*(8*w))
def eG (p:List Nd) (t:Fo) (i:Nat):Bool:=
 if (p.getD i dN).op=18/\(p.getD (l8 t i) dN).op=16/\iq p t (l8 t i)=false/\aJ p (l8 t i)=false/\aJ p i=false/\aJ p (eY p t (l8 t i) 0).toNat=false then
  uu p i (ai p ((eY p t (l8 t i) 0).toNat+4)) (ai p (l8 t i+2)) (od p ((t.kid 0 (aD t i).pa.toNat).starts ((aD t i).pa.toNat+1)) i 0)
 else false
def BY (p:List Nd) (t:Fo) (i:Nat):Bool:=decide ((p.getD i dN).op=7)&&decide (ai p ((aD t i).me.toNat+2)<=ai p i)
def xK (p:List Nd) (t:Fo) (i:Nat):Bool:=decide ((p.getD i dN).op=34\/(p.getD i dN).op=35)&&decide ((aD t i).lo<0)
def B7 (p:List Nd) (t:Fo) (i:Nat):List Bool:=[false,false,gM p t i,jf p t i,aJ p i,oE p i,iq p t i,eG p t i,xK p t i,BY p t i,mK p t i]
def fM (p:List Nd) (t:Fo) (i:Nat):List Nat:=(List.range' 1 10).filter λk=>(B7 p t i).getD k false
def zF (p:List Nd) (t:Fo):List (Nat×Nat):=(List.range t.size).flatMap λi=>(fM p t i).map λc=>(i,c)
end
section
variable {p:List Nd} {t:Fo}
theorem Ht {f:Nat} (h:(p.getD f dN).op=16) (ho:aJ p f=false):ai p (f+2)=1\/ai p (f+2)=2\/ai p (f+2)=4\/ai p (f+2)=8:=by
 unfold aJ at ho
 repeat (first|rw[if_pos h] at ho|rw[if_neg aa] at ho)
 unfold kG at ho;split at ho
 ·assumption
 ·cases ho
theorem EJ (hI:re p) {k:Nat} (h:(p.getD k dN).op=18) (ho:aJ p k=false):1<=ai p (k+2)/\ai p (k+2)<=256:=by
 have:=cE hI (k+2);unfold aJ at ho
 repeat (first|rw[if_pos h] at ho|rw[if_neg aa] at ho)
 simp at ho;unfold ai at*;omega
theorem Hr {k:Nat} (h:(p.getD k dN).op=19) (ho:aJ p k=false):ai p (k+1)<=8388608:=by
 unfold aJ at ho
 repeat (first|rw[if_pos h] at ho|rw[if_neg aa] at ho)
 simp at ho;omega
theorem Hu {q:Nat} (h:(p.getD q dN).op=15) (ho:aJ p q=false):ai p (q+4)<=1048576:=by
 unfold aJ at ho
 repeat (first|rw[if_pos h] at ho|rw[if_neg aa] at ho)
 simp[gV] at ho;omega
theorem Hq (hp:p.length<=2048) (hw:tX p) (hI:re p) (ha:t.At p 0) (hv:t.V (List.replicate t.cnt (false,68))) (hs:t.size=p.length) {i:Nat} (hi:i<t.size):
 FQ 111 [ao p,lh (be p t),nI i] 0 [] (bV (eG p t i)) 0 []:=by
 have hip:i<p.length:=aa
 have hLl:(be p t).length=p.length:=by rw[dP,hs]
 have hge:∀ j,0<=ai p j:=λj=>cE hI j
 by_cases h18:(p.getD i dN).op=18
 ·obtain⟨f,b,hfb,hbi,hpb,hpf,h4,hf,hib,hbf,hun⟩:=vE ha hv hi h18
  have hpi:((be p t).getD i ini).pa=(b:Int):=by rw[fA hi];exact (mZ i).2.2.trans hpb
  have hpB:((be p t).getD b ini).pa=(f:Int):=by rw[fA aa];exact (mZ b).2.2.trans hpf
  have hf0:l8 t i=f:=by unfold l8;rw[hpb,Z12,hpf,Z12]
  unfold eG;rw[hf0,hpb,Z12];by_cases h16:(p.getD f dN).op=16
  ·have hno:=EM hp hw ha hv hs (i:=f) aa
   have hrf:=sS hp hI ha hv hs (i:=f) aa;have hri:=sS hp hI ha hv hs hi;cases n1:iq p t f
   ·rw[n1] at hno
    cases n2:aJ p f
    ·rw[n2,Z2f] at hrf
     cases n3:aJ p i
     ·rw[n3,Z2f] at hri
      obtain⟨q,hq,hqt,hq15⟩:∃ q:Nat,eY p t f 0=(q:Int)/\q<t.size/\(p.getD q dN).op=15:=by
       unfold iq at n1;rw[if_pos h16,Z2y,decide_eq_false_iff_not,decide_eq_false_iff_not] at n1
       rcases vS p t f 0 with h|⟨q,h1,h2⟩
       ·omega
       ·refine⟨q,h1,h2,?_⟩
        have:=n1.2;rw[h1,Z12] at this;omega
      obtain⟨l1,l2,l3⟩:=iW ha hv (i:=f) aa (k:=0) (by rw[h16];decide);have r0:=zu (k:=0) hp hw hs (i:=f) aa l1;rw[hq] at r0 |-;rw[Z12];have hrq:=sS hp hI ha hv hs hqt;have hkf:=fJ hp ha hv hs (i:=f) aa;have hkp:((t.kid 0 f).starts (f+1)).getD 0 0<p.length:=aa;have hfp:f<p.length:=aa;cases n4:aJ p q
      ·rw[n4,Z2f] at hrq
       rw[if_pos ⟨h18,h16,rfl,rfl,rfl,rfl⟩];have hkb:=fJ hp ha hv hs (i:=b) aa;have nf:=m8 hp ha hv hs (i:=f) aa 1 (by rw[h16];decide);have nq:=m8 hp ha hv hs hqt 3 (by rw[hq15];decide);have ni:=m8 hp ha hv hs hi 1 (by rw[h18];decide);have hw4:=Ht h16 n2;have hlen:=Hu hq15 n4;have hn18:=EJ hI h18 n3;have hgq:=hge (q+4)
       have hrk:∀ j,j<t.size->FQ 108 [ao p,nI j] 0 [] (bV (!aJ p j)) 0 []:=λj hj=>sS hp hI ha hv hs hj
       have hnk:∀ (j k:Nat),j<t.size->k<o9 (p.getD j dN).op->FQ 112 [ao p,nI j,nI k] 0 [] (nU (ai p (j+1+k))) 0 []:=λj k hj hk=>m8 hp ha hv hs hj k hk
       have hub:∀ j∈(t.kid 0 b).starts (b+1),j<p.length:=λj hj=>by have:=(ee ha (show b<t.size by omega) hj).2.1;omega
       have hkn:((t.kid 0 b).starts (b+1)).length<=2048:=by
        have g1:=Fo.cnt_le (t.kid 0 b);have g2:=bC (t:=t) (Z08 b) aa;rw[bH];omega
       have hno':=hno;generalize hR:uu p i (ai p (q+4)) (ai p (f+2)) (od p ((t.kid 0 b).starts (b+1)) i 0)=R;have nf:FQ 112 [ao p,nI f,nI (1:Nat)] 0 [] (nU (ai p (f+2))) 0 []:=nf;have nq:FQ 112 [ao p,nI q,nI (3:Nat)] 0 [] (nU (ai p (q+4))) 0 []:=nq;have ni:FQ 112 [ao p,nI i,nI (1:Nat)] 0 [] (nU (ai p (i+2))) 0 []:=ni;generalize (t.kid 0 f).starts (f+1)=ks at*;generalize (t.kid 0 b).starts (b+1)=us at*;generalize be p t=L at*;generalize ai p (f+2)=w at*;generalize ai p (q+4)=len at*;refine wW Tryz.func111 ?_
       repeat'(first|refine fN 7 (nI b) (bp (congrArg nI hpi)) rfl ?_|refine fN 8 (nI f) (bp (congrArg nI hpB)) rfl ?_|refine y1 ?_|refine y2 ?_ ?_|refine y4 λh=>?_|refine an hno ?_|refine an hrf ?_|refine an hri ?_|refine an hkf ?_|refine an r0 ?_|refine an hrq ?_|refine an hkb ?_|refine y3 ?_|exact y5|fail)
       clear hno hno' hrf hri hrq r0 hkf hkb hpi hpB;refine cD (σ:=Nat×Int) (λx=>[(10,nU x.2),(12,nI x.1)]) (λ_=>[]) (λx=>x.1<=us.length/\i∈us.drop x.1/\(0<=x.2/\x.2<=x.1*8388608)/\uu p i len w (od p (us.drop x.1) i x.2)=R) (λx=>us.length-x.1) (0,0) rfl (λ_=>rfl) ⟨Z08 _,hib,⟨Z2l _,av⟩,hR⟩ bc trivial ?_;rintro⟨k,bit⟩ ⟨hk,hik,⟨b1,b2⟩,hI2⟩;simp only at hk hik b1 b2 hI2 |-
       have hkl:k<us.length:=by
        rcases Z0a k us.length with h|h
        ·exact h
        ·rw[Z10 h] at hik;cases hik
       have hdr:us.drop k=us.getD k 0::us.drop (k+1):=by
        rw[Z0k hkl,Z00,Z01 hkl];rfl
       have hgm:us.getD k 0∈us:=by rw[Z00,Z01 hkl];exact Z0s _
       have hgp:=hub _ hgm;have hop2:=hun _ hgm;rw[hdr] at hik hI2;simp only[od] at hI2;by_cases he:us.getD k 0=i
       ·rw[if_pos he] at hI2
        unfold uu at hI2;simp only at hI2;have h8:0<=8*w/\8*w<18446744073709551616/\8*w≠0:=aa;have A1:=al (z:=bit+ai p (i+2)) aa aa;have A2:=al (z:=bit+ai p (i+2)-1) aa aa;have A3:=al (z:=8*w) h8.1 h8.2.1;have hQ:=vJ (a:=bit+ai p (i+2)-1) (b:=8*w) aa aa;have hM:=Ae (q:=(bit+ai p (i+2)-1).tdiv (8*w)+1) hw4 aa
        have hM8:((bit+ai p (i+2)-1).tdiv (8*w)+1)*(8*w)=8*(((bit+ai p (i+2)-1).tdiv (8*w)+1)*w):=by rw[<-Int.mul_assoc,Int.mul_comm _ 8,Int.mul_assoc]
        have A4:=al (z:=(bit+ai p (i+2)-1).tdiv (8*w)) hQ.1 aa;have A5:=al (z:=(bit+ai p (i+2)-1).tdiv (8*w)+1) aa aa;have A6:=al (z:=((bit+ai p (i+2)-1).tdiv (8*w)+1)*(8*w)) aa aa;have A7:=al (z:=8*len) aa aa
        repeat'(first|refine y1 ?_|refine y2 ?_ ?_|refine y4 λh=>?_|refine an nf ?_|refine an ni ?_|refine an nq ?_|refine cJ (.inl rfl) rfl ?_|refine y3 ?_|exact y5|fail)
        all_goals try first
         |exact (decide_eq_true (by first|assumption|omega)).symm.trans hI2
         |exact (decide_eq_false (by first|assumption|omega)).symm.trans hI2
       ·rw[if_neg he] at hI2
        have hik:=(Z0h.1 hik).resolve_left (λh=>he h.symm);have hru:=hrk (us.getD k 0) aa;have hge1:=hge (us.getD k 0+1);have hge2:=hge (us.getD k 0+2);cases ho:aJ p (us.getD k 0)
        ·rw[ho,if_neg ac] at hI2
         rw[ho,Z2f] at hru;by_cases h19:(p.getD (us.getD k 0) dN).op=19
         ·rw[if_pos h19] at hI2
          have hnu:FQ 112 [ao p,nI (us.getD k 0),nI (0:Nat)] 0 [] (nU (ai p (us.getD k 0+1))) 0 []:=hnk (us.getD k 0) 0 aa (by rw[h19];decide);have hb19:=Hr h19 ho
          repeat'(first|refine yA ?_|refine y2 ?_ ?_|refine y4 λh=>?_|refine an hru ?_|refine an hnu ?_|exact y5|fail)
          refine dT (k+1,bit+ai p (us.getD k 0+1)) ⟨by simp only;omega,hik,⟨by simp only;omega,by simp only;push_cast;omega⟩,hI2⟩ (by simp only;omega) rfl ⟨ah _,bp (congrArg nI (by push_cast;rfl)),trivial⟩ trivial rfl rfl ac
         ·rw[if_neg h19] at hI2
          have h18u:=hop2.resolve_right h19;have hnu:FQ 112 [ao p,nI (us.getD k 0),nI (1:Nat)] 0 [] (nU (ai p (us.getD k 0+2))) 0 []:=hnk (us.getD k 0) 1 aa (by rw[h18u];decide);have hb18:=EJ hI h18u ho
          repeat'(first|refine yA ?_|refine y2 ?_ ?_|refine y4 λh=>?_|refine an hru ?_|refine an hnu ?_|exact y5|fail)
          refine dT (k+1,bit+ai p (us.getD k 0+2)) ⟨by simp only;omega,hik,⟨by simp only;omega,by simp only;push_cast;omega⟩,hI2⟩ (by simp only;omega) rfl ⟨ah _,bp (congrArg nI (by push_cast;rfl)),trivial⟩ trivial rfl rfl ac
        ·rw[ho,if_pos rfl] at hI2
         rw[ho,Z2z] at hru
         repeat'(first|refine y1 ?_|refine y2 ?_ ?_|refine y4 λh=>?_|refine an hru ?_|refine cJ (.inl rfl) rfl ?_|refine y3 ?_|exact y5|fail)
         all_goals try first|omega|exact hI2
      ·rw[if_neg (by rintro⟨_,_,_,_,_,h⟩;cases h)]
       rw[n4,Z2z] at hrq;generalize (t.kid 0 f).starts (f+1)=ks at*;generalize be p t=L at*;refine wW Tryz.func111 ?_
       repeat'(first|refine fN 7 (nI b) (bp (congrArg nI hpi)) rfl ?_|refine fN 8 (nI f) (bp (congrArg nI hpB)) rfl ?_|refine y1 ?_|refine y2 ?_ ?_|refine y4 λh=>?_|refine an hno ?_|refine an hrf ?_|refine an hri ?_|refine an hkf ?_|refine an r0 ?_|refine an hrq ?_|refine cJ (.inl rfl) rfl ?_|refine y3 ?_|exact y5|fail)
     ·rw[if_neg (by rintro⟨_,_,_,_,h,_⟩;cases h)]
      rw[n3,Z2z] at hri;generalize be p t=L at*;refine wW Tryz.func111 ?_
      repeat'(first|refine fN 7 (nI b) (bp (congrArg nI hpi)) rfl ?_|refine fN 8 (nI f) (bp (congrArg nI hpB)) rfl ?_|refine y1 ?_|refine y2 ?_ ?_|refine y4 λh=>?_|refine an hno ?_|refine an hrf ?_|refine an hri ?_|refine cJ (.inl rfl) rfl ?_|refine y3 ?_|exact y5|fail)
    ·rw[if_neg (by rintro⟨_,_,_,h,_⟩;cases h)]
     rw[n2,Z2z] at hrf;generalize be p t=L at*;refine wW Tryz.func111 ?_
     repeat'(first|refine fN 7 (nI b) (bp (congrArg nI hpi)) rfl ?_|refine fN 8 (nI f) (bp (congrArg nI hpB)) rfl ?_|refine y1 ?_|refine y2 ?_ ?_|refine y4 λh=>?_|refine an hno ?_|refine an hrf ?_|refine cJ (.inl rfl) rfl ?_|refine y3 ?_|exact y5|fail)
   ·rw[if_neg (by rintro⟨_,_,h,_⟩;cases h)]
    rw[n1] at hno;generalize be p t=L at*;refine wW Tryz.func111 ?_
    repeat'(first|refine fN 7 (nI b) (bp (congrArg nI hpi)) rfl ?_|refine fN 8 (nI f) (bp (congrArg nI hpB)) rfl ?_|refine y1 ?_|refine y2 ?_ ?_|refine y4 λh=>?_|refine an hno ?_|refine cJ (.inl rfl) rfl ?_|refine y3 ?_|exact y5|fail)
  ·rw[if_neg (by rintro⟨_,h,_⟩;exact h16 h)]
   generalize be p t=L at*;refine wW Tryz.func111 ?_
   repeat'(first|refine fN 7 (nI b) (bp (congrArg nI hpi)) rfl ?_|refine fN 8 (nI f) (bp (congrArg nI hpB)) rfl ?_|refine y1 ?_|refine y2 ?_ ?_|refine y4 λh=>?_|refine cJ (.inl rfl) rfl ?_|refine y3 ?_|exact y5|fail)
 ·unfold eG
  rw[if_neg (λh=>h18 h.1)];refine wW Tryz.func111 ?_
  repeat'(first|refine y1 ?_|refine y2 ?_ ?_|refine y4 λh=>?_|refine cJ (.inl rfl) rfl ?_|refine y3 ?_|exact y5|fail)
end
section
variable {i:Nat}
section
variable {p:List Nd} {t:Fo}
theorem x7 (hi:i<t.size) (hne:aV p t i≠[]):jf p t i=decide (dd (be p t) (aV p t i)<(i:Int)):=by
 unfold jf;rw[decide_eq_true hne,Z1r,Z5t,decide_eq_true_eq,nC]
 rcases gF (p:=p) (t:=t) (aV p t i) with ⟨_,h2⟩|⟨k,h1,h2,h3,h4⟩
 all_goals grind
theorem D9 (ha:t.At p 0) (hi:i<t.size) (hd:bw (p.getD i dN).op=true):gM p t i=decide (aV p t i=[]):=by
 grind [gM,fT]
theorem Ex.cutQ {P:Program} {b:Nat} {y:Code} {env:List V} {n:Nat} {L:Hp} {R:Post} (id N n':Nat) (X:List (Nat×V)) (H:Hp) {E:List V} {ops:Array Oper} {d:Bool} (hE:fK (ov X 0 N) [] some=some E) (h:Ex P b (.region id ops d) env n L (vy b N n' X H)) (k:Ex P b y E n' H R):Ex P b (.seq (.region id ops d) y) env n L R:=Ex.seq (Ex.cut N n' X H hE h k)
def E6 (A:List Bool) (j:Nat):List Nat:=(List.range' 1 j).filter λk=>A.getD k false
theorem BN (A:List Bool) (j:Nat):E6 A (j+1)=E6 A j++if A.getD (j+1) false=true then [j+1] else []:=by
 grind [List.range'_1_concat,E6]
theorem DY (A:List Bool) (j:Nat):(E6 A j).length<=j:=by
 have:=Z37 (λk=>A.getD k false) (List.range' 1 j);rw[Z5e] at this;exact this
abbrev Ef (l:List Bool):Bl:={cells:=l.map S.bool,ty:=175}
theorem EU {A:List Bool} {k:Nat} {b:Bool} (hl:k<A.length) (h:A.getD k false=b):fo false 1 (Ef A) k=some (bV b):=by
 show (match (A.map S.bool)[k]? with|some x=>some (V.s x)|none=>none)=_
 grind
theorem nW (p:List Nd) (t:Fo) (i:Nat):(fM p t i).length<=10:=by
 grind [fM]
theorem DU (hp:p.length<=2048) (hw:tX p) (hI:re p) (ha:t.At p 0) (hv:t.V (List.replicate t.cnt (false,68))) (hs:t.size=p.length) (hi:i<t.size):
 FQ 64 [ao p,lh (be p t),nI i] 0 [] (.s (gb (fM p t i))) 0 []:=by
 have hsz:(Tryz.prog.types[3]).size=1:=bd;have hby:(Tryz.prog.types[3]).bytes=8:=bd;have hip:i<p.length:=aa
 have hLl:(be p t).length=p.length:=by rw[dP,hs]
 have hkc:=fJ hp ha hv hs hi;have hdc:=wD (p.getD i dN).op;have hir:=sS hp hI ha hv hs hi;have hto:=Hc hp ha hv hs hi;have hnr:=EM hp hw ha hv hs hi;have hou:=Hq hp hw hI ha hv hs hi;have hun:=Hb hp ha hv hs hi
 have hsc:((be p t).getD i ini).sc=(aD t i).sc:=by rw[fA hi];exact zM i
 have hpt:((be p t).getD i ini).path=aV p t i:=jV hi
 have hlo:((be p t).getD i ini).lo=(aD t i).lo:=by rw[fA hi];exact (mZ i).2.1
 have hme:((be p t).getD i ini).me=(aD t i).me:=by rw[fA hi];exact (mZ i).1
 have hfi:=sZ (be p t) aa (aV p t i)
 have hsg:dW ((be p t).getD i ini).sc.segs:=by rw[hsc];exact fS (nT t i)
 have hdf:=x7 (p:=p) hi;have hbd:=D9 (p:=p) ha hi;have hnm:=EN ha hv hi;have hprs:=io (p.getD (i+1) dN).str (l_ hw (i+1));have hjn:=we ((be p t).getD i ini).sc (ak (p.getD (i+1) dN).str).1 hsg (ii _)
 have hok:(p.getD i dN).op=10->xC p t i=(au ((be p t).getD i ini).sc (ak (p.getD (i+1) dN).str).1).2:=λh=>by
  grind [xC]
 have hks:(p.getD i dN).op=10->((t.kid 0 i).starts (i+1)).getD 0 0=i+1/\0<((t.kid 0 i).starts (i+1)).length/\i+1<p.length:=λh=>by
  grind
 have hbm:=wQ ha hv i hi
 have hnum:∀ M,M<t.size->(p.getD M dN).op=14->FQ 112 [ao p,nI M,nI (1:Nat)] 0 [] (nU (ai p (M+1+1))) 0 []:=λM hM h=>m8 hp ha hv hs hM 1 (by rw[h];decide)
 have hge:∀ j,0<=ai p j:=λj=>cE hI j
 have hlo2:xK p t i=(decide ((p.getD i dN).op=34\/(p.getD i dN).op=35)&&decide (((be p t).getD i ini).lo<0)):=by unfold xK;rw[hlo]
 obtain⟨c4,hc4⟩:∃ c,c= !aJ p i:=⟨_,rfl⟩
 have hc4':aJ p i= !c4:=ae;rw[<-hc4] at hir;unfold fM B7;rw[hc4'];clear hc4 hc4' hlo hsc
 have hb2:gM p t i=(if (p.getD i dN).op=10 then !xC p t i else if bw (p.getD i dN).op=true then decide (aV p t i=[]) else false):=by
  by_cases h:(p.getD i dN).op=10
  ·unfold gM;rw[if_pos h,decide_eq_true h,Z4m,Z1r]
  ·rw[if_neg h]
   split
   ·rename_i hd;exact hbd hd
   ·rename_i hd
    have hd:bw (p.getD i dN).op=false:=by cases q:bw (p.getD i dN).op<;>simp_all
    unfold gM;rw[hd,decide_eq_false h];rfl
 have hb3:jf p t i=(if bw (p.getD i dN).op=true then decide (aV p t i≠[])&&decide (dd (be p t) (aV p t i)<(i:Int)) else false):=by
  by_cases e:aV p t i=[]
  ·unfold jf;simp[e]
  ·rw[hdf e,decide_eq_true e,Z1r,if_pos ((fT ha hi).1 e).1]
 have hx10:(p.getD i dN).op=10->bw (p.getD i dN).op=false:=λh=>by unfold bw;rw[decide_eq_false aa]
 clear hbd hdf hnm;generalize xC p t i=ok at*;generalize gM p t i=b2 at*;generalize jf p t i=b3 at*;generalize oE p i=b5 at*;generalize iq p t i=b6 at*;generalize eG p t i=b7 at*;generalize hb8:xK p t i=b8 at*;generalize hb9:BY p t i=b9 at*;generalize mK p t i=b10 at*;unfold BY at hb9;rw[<-hme] at hb9 hbm;generalize aV p t i=P at*;generalize (t.kid 0 i).starts (i+1)=ks at*;generalize be p t=L at*;generalize dd L P=fr at*;rw[<-hpt] at hfi
 obtain⟨B2,hB2⟩:∃ B,B=(if (p.getD i dN).op=10 then !ok else false):=⟨_,rfl⟩
 refine wW Tryz.func64 ?_
 repeat'(first|refine Ex.cutS 3 159 1 [(0,ao p),(1,lh L),(2,nI i),(7,.s (.slc none 0 (some 0))),(8,.s (.ptr (some (0,0))))] [(0,some (Ef [false,false,B2,false,false,false,false,false,false,false,false]))] rfl (Hold.k ?_) (Hold.k ?_)|refine y1 ?_|refine y2 ?_ ?_|refine y3 ?_|exact y5|fail)
 ·refine⟨?_⟩
  by_cases h10:(p.getD i dN).op=10
  ·obtain⟨k1,k2,k3⟩:=hks h10
   have hok:=hok h10;rw[if_pos h10] at hB2;subst hB2;rw[<-k1] at hprs hjn hok;have hkp:ks.getD 0 0<p.length:=aa;generalize ak (p.getD (ks.getD 0 0) dN).str=pp at*;obtain⟨⟨pr,pq,ps⟩,pok⟩:=pp;simp only at hjn hok;generalize au (L.getD i ini).sc ⟨pr,pq,ps⟩=jj at*;obtain⟨⟨jr,ju,js⟩,jok⟩:=jj;simp only at hok;subst hok
   repeat'(first|refine yA ?_|refine y2 ?_ ?_|refine y4 λh=>?_|refine an hkc ?_|refine an hprs ?_|refine an hjn ?_|exact y5|fail)
   all_goals refine fu [0] rfl rfl ⟨ah _,ah _,ah _,ah _,ah _,trivial⟩ ⟨rfl,trivial⟩ rfl
  ·rw[if_neg h10] at hB2
   subst hB2
   repeat'(first|refine yA ?_|refine y2 ?_ ?_|refine y4 λh=>?_|exact y5|fail)
   all_goals refine fu [0] rfl rfl ⟨ah _,ah _,ah _,ah _,ah _,trivial⟩ ⟨rfl,trivial⟩ rfl
 refine⟨?_⟩;clear hkc hprs hjn hok hks
 repeat'(first|refine Ex.cutC 52 159 1 [(0,ao p),(1,lh L),(2,nI i),(7,.s (.slc none 0 (some 0))),(8,.s (.ptr (some (0,0))))] [(0,some (Ef [false,false,b2,b3,false,false,false,false,false,false,false]))] rfl (Hold.k ?_) (Hold.k ?_)|refine y1 ?_|refine y2 ?_ ?_|refine an hdc ?_|refine y3 ?_|exact y5|fail)
 ·refine⟨?_⟩
  cases hd:bw (p.getD i dN).op
  ·rw[hd,if_neg ac] at hb3
   rw[hd,if_neg (show ¬(false=true) by decide),<-hB2] at hb2;subst hb2;subst hb3
   repeat'(first|refine yA ?_|fail)
   all_goals refine fu [0] rfl rfl ⟨ah _,ah _,ah _,ah _,ah _,trivial⟩ ⟨rfl,trivial⟩ rfl
  ·have h10: ¬(p.getD i dN).op=10:=λh=>by grind
   rw[if_neg h10] at hB2 hb2;rw[hd,if_pos rfl] at hb2 hb3;subst hB2
   by_cases hP:P=[]
   ·rw[decide_eq_true hP] at hb2
    rw[decide_eq_false (λh=>h hP),Z2c] at hb3;subst hb2;subst hb3;have hP':(L.getD i ini).path=[]:=hpt.trans hP
    repeat'(first|refine yA ?_|refine y2 ?_ ?_|refine y4 λh=>?_|exact y5|fail)
    all_goals refine fu [0] rfl rfl ⟨ah _,ah _,ah _,ah _,ah _,trivial⟩ ⟨rfl,trivial⟩ rfl
   ·rw[decide_eq_false hP] at hb2
    rw[decide_eq_true hP,Z1r] at hb3
    have hP': ¬(L.getD i ini).path=[]:=λh=>hP (hpt.symm.trans h)
    by_cases hf:fr<(i:Int)
    ·rw[decide_eq_true hf] at hb3
     subst hb2;subst hb3
     repeat'(first|refine yA ?_|refine y2 ?_ ?_|refine y4 λh=>?_|refine an hfi ?_|exact y5|fail)
     all_goals refine fu [0] rfl rfl ⟨ah _,ah _,ah _,ah _,ah _,trivial⟩ ⟨rfl,trivial⟩ rfl
    ·rw[decide_eq_false hf] at hb3
     subst hb2;subst hb3
     repeat'(first|refine yA ?_|refine y2 ?_ ?_|refine y4 λh=>?_|refine an hfi ?_|exact y5|fail)
     all_goals refine fu [0] rfl rfl ⟨ah _,ah _,ah _,ah _,ah _,trivial⟩ ⟨rfl,trivial⟩ rfl
 refine⟨?_⟩;clear hb2 hb3 hB2 hdc hfi hx10
 repeat'(first|refine Ex.cutQ 14 159 1 [(0,ao p),(1,lh L),(2,nI i),(7,.s (.slc none 0 (some 0))),(8,.s (.ptr (some (0,0))))] [(0,some (Ef [false,false,b2,b3,!c4,b5,b6,b7,b8,false,false]))] rfl (Hold.k ?_) (Hold.k ?_)|refine y1 ?_|refine y2 ?_ ?_|refine an hir ?_|refine an hto ?_|refine an hnr ?_|refine an hou ?_|refine y3 ?_|exact y5|fail)
 ·refine⟨?_⟩
  clear hir hto hnr hou hun hb9 hbm hnum;by_cases h3:(p.getD i dN).op=34\/(p.getD i dN).op=35
  ·rw[decide_eq_true h3,Z1r] at hlo2
   by_cases hl:(L.getD i ini).lo<0
   ·rw[decide_eq_true hl] at hlo2
    clear hb8;subst hlo2
    repeat'(first|refine yA ?_|refine y2 ?_ ?_|refine y4 λh=>?_|exact y5|fail)
    all_goals refine fu [0] rfl rfl ⟨ah _,ah _,ah _,ah _,ah _,trivial⟩ ⟨rfl,trivial⟩ rfl
   ·rw[decide_eq_false hl] at hlo2
    clear hb8;subst hlo2
    repeat'(first|refine yA ?_|refine y2 ?_ ?_|refine y4 λh=>?_|exact y5|fail)
    all_goals refine fu [0] rfl rfl ⟨ah _,ah _,ah _,ah _,ah _,trivial⟩ ⟨rfl,trivial⟩ rfl
  ·rw[decide_eq_false h3,Z2c] at hlo2
   clear hb8;subst hlo2
   repeat'(first|refine yA ?_|refine y2 ?_ ?_|refine y4 λh=>?_|exact y5|fail)
   all_goals refine fu [0] rfl rfl ⟨ah _,ah _,ah _,ah _,ah _,trivial⟩ ⟨rfl,trivial⟩ rfl
 refine⟨?_⟩;clear hir hto hnr hou hlo2 hb8
 repeat'(first|refine Ex.cutQ 15 159 1 [(0,ao p),(1,lh L),(2,nI i),(7,.s (.slc none 0 (some 0))),(8,.s (.ptr (some (0,0))))] [(0,some (Ef [false,false,b2,b3,!c4,b5,b6,b7,b8,b9,false]))] rfl (Hold.k ?_) (Hold.k ?_)|fail)
 ·refine⟨?_⟩
  have hgi:ai p i=(p.getD i dN).int:=rfl;rw[hgi] at hb9;by_cases h7:(p.getD i dN).op=7
  ·obtain⟨M,m1,m2,m3,m4⟩:=hbm (by rw[h7];decide)
   have hnM:FQ 112 [ao p,nI M,nI (1:Nat)] 0 [] (nU (ai p (M+2))) 0 []:=hnum M aa m3;rw[decide_eq_true h7,Z1r,m2,Z12] at hb9;clear hun hnum hbm;by_cases h9:ai p (M+2)<=(p.getD i dN).int
   ·rw[decide_eq_true h9] at hb9
    subst hb9
    repeat'(first|refine RegX.eqv 137 (congrArg nI m2) rfl ?_|refine y1 ?_|refine y2 ?_ ?_|refine y4 λh=>?_|refine an hnM ?_|refine y3 ?_|exact y5|fail)
    all_goals refine fu [0] rfl rfl ⟨ah _,ah _,ah _,ah _,ah _,trivial⟩ ⟨rfl,trivial⟩ rfl
   ·rw[decide_eq_false h9] at hb9
    subst hb9
    repeat'(first|refine RegX.eqv 137 (congrArg nI m2) rfl ?_|refine y1 ?_|refine y2 ?_ ?_|refine y4 λh=>?_|refine an hnM ?_|refine y3 ?_|exact y5|fail)
    all_goals refine fu [0] rfl rfl ⟨ah _,ah _,ah _,ah _,ah _,trivial⟩ ⟨rfl,trivial⟩ rfl
  ·rw[decide_eq_false h7,Z2c] at hb9
   subst hb9;clear hun hnum hbm
   repeat'(first|refine yA ?_|refine y2 ?_ ?_|refine y4 λh=>?_|exact y5|fail)
   all_goals refine fu [0] rfl rfl ⟨ah _,ah _,ah _,ah _,ah _,trivial⟩ ⟨rfl,trivial⟩ rfl
 refine⟨?_⟩;clear hb9 hbm hnum
 repeat'(first|refine yA ?_|refine y2 ?_ ?_|refine an hun ?_|exact y5|fail)
 refine Cy [0] 159 [(7,.s (.slc none 0 (some 0))),(8,.s (.ptr (some (0,0)))),(13,nI (0+1:Nat))] [(0,some (Ef [false,false,b2,b3,!c4,b5,b6,b7,b8,b9,b10]))] rfl rfl ⟨ah _,ah _,ah _,trivial⟩ ⟨rfl,trivial⟩ rfl ?_;refine fN 7 (.s (.row 1 2 0)) (VLe.s SLe.nilrow) rfl (Ex.upN (n':=3) ac ?_);refine cD (σ:=Nat) (λj=>[(7,.s (.row 1 2 (E6 [false,false,b2,b3,!c4,b5,b6,b7,b8,b9,b10] j).length)),(13,nI (j+1:Nat))]) (λj=>[(0,some (Ef [false,false,b2,b3,!c4,b5,b6,b7,b8,b9,b10])),(1,HQ 1 (E6 [false,false,b2,b3,!c4,b5,b6,b7,b8,b9,b10] j))]) (λj=>j<=10) (λj=>10-j) 0 rfl (λ_=>rfl) (Z08 _) bc ⟨rfl,trivial⟩ ?_;intro j hj;by_cases hj10:j<10
 ·have hDs:=BN [false,false,b2,b3,!c4,b5,b6,b7,b8,b9,b10] j
  have hDl:=DY [false,false,b2,b3,!c4,b5,b6,b7,b8,b9,b10] j
  have hcat:bT 0 (bS (j+1) (Tryz.prog.types[4]).size)=j+1:=by rw[show (Tryz.prog.types[4]).size=1 by kernel_rfl,aL,bB];omega
  have hsb:(Tryz.prog.types[4]).size=1:=bd;generalize E6 [false,false,b2,b3,!c4,b5,b6,b7,b8,b9,b10] j=D at*;cases hb:[false,false,b2,b3,!c4,b5,b6,b7,b8,b9,b10].getD (j+1) false
  ·rw[hb,if_neg ac,Z0u] at hDs
   repeat'(first|refine y1 ?_|refine y2 ?_ ?_|refine y4 λh=>?_|refine RegX.chunkN 2 rfl rfl ?_ (tW [.ldv (bV false)] rfl rfl ?_ rfl ?_)|refine y3 ?_|exact y5|fail)
   all_goals try (show fo false _ (Ef [false,false,b2,b3,!c4,b5,b6,b7,b8,b9,b10]) _=_;rw[hcat,hsb];exact EU (show j+1<11 by omega) hb)
   refine dT (j+1) aa aa rfl ⟨bp (by rw[hDs];rfl),bp (congrArg nI ae),trivial⟩ ⟨rfl,iN (by rw[hDs];rfl) trivial⟩ rfl ?_ ac
   unfold HQ;generalize List.flatMap _ _=cg;cases cg<;>rfl
  ·rw[hb,if_pos rfl] at hDs
   repeat'(first|refine y1 ?_|refine y2 ?_ ?_|refine y4 λh=>?_|refine RegX.chunkN 2 rfl rfl ?_ (tW [.ldv (bV true)] rfl rfl ?_ rfl ?_)|refine jC (i:=1) (g:=2) (m:=D.length) (w:=1) (cs:=D.flatMap λj=>[S.int .i64 ((j:Nat):Int)]) (foot:=[3]) (k:=1) (add:=[S.int .i64 ((j+1:Nat):Int)]) rfl rfl (by rw[AJ];omega) rfl rfl rfl rfl rfl rfl rfl hsz ac rfl ⟨Z02 _,rfl⟩ ac av rfl (by rw[hby];omega) aa rfl ?_|refine y3 ?_|exact y5|fail)
   all_goals try (show fo false _ (Ef [false,false,b2,b3,!c4,b5,b6,b7,b8,b9,b10]) _=_;rw[hcat,hsb];exact EU (show j+1<11 by omega) hb)
   refine fq (j+1) aa aa [0,4,5] rfl ?_ ?_ ?_
   ·rw[hDs]
    repeat'(first|exact ah _|exact cT _|exact Z0o|(refine bp (congrArg V.s (?_:S.row 4 5 _=S.row 4 5 _));simp;done)|refine⟨?_,?_⟩)
   ·rw[hDs]
    refine⟨rfl,bN ?_ trivial⟩;rw[Z0r];rfl
   ·rw[hDs];unfold HQ;generalize List.flatMap _ _=cg;cases cg<;>rfl
 ·have hj':j=10:=aa
  subst hj';generalize hD:E6 [false,false,b2,b3,!c4,b5,b6,b7,b8,b9,b10] 10=D at*;have hD':(List.filter (λk=>[false,false,b2,b3,!c4,b5,b6,b7,b8,b9,b10].getD k false) (List.range' 1 10))=D:=hD;rw[hD']
  repeat'(first|refine y1 ?_|refine y2 ?_ ?_|refine y4 λh=>?_|refine Ex.fzR 6 (λj=>[S.int .i64 ((j:Nat):Int)]) 1 0 D rfl rfl (λ_=>rfl) (λa j x h=>sK h) ac rfl rfl ?_|refine cW (.inl rfl) rfl (ah _) rfl|refine y3 ?_|exact y5|fail)
end
end
section
variable {p:List Nd} {t:Fo}
def jS (p:List Nd) (t:Fo) (n:Nat):Dgs:=(List.range n).flatMap λi=>(fM p t i).map λc=>(i,c)
theorem mW (n:Nat):jS p t (n+1)=jS p t n++(fM p t n).map λc=>(n,c):=by
 unfold jS;rw[Z3a,Z0r];simp
theorem o0:∀ n:Nat,(jS p t n).length<=10*n
 |0=>Z02 _
 |n+1=>by
  have:=o0 n;have h:=nW p t n;rw[mW,Z03,Z0z];omega
def gY (p:List Nd) (t:Fo) (n:Nat):List Dc:=(List.range n).flatMap (lB p t)
theorem i6 (n:Nat):gY p t (n+1)=gY p t n++lB p t n:=by
 unfold gY;rw[Z3a,Z0r];simp
theorem nP:∀ n:Nat,(gY p t n).length<=n
 |0=>Z02 _
 |n+1=>by
  have:=nP n
  have h:(lB p t n).length<=1:=by unfold lB;split<;>simp
  rw[i6,Z03];omega
theorem DV (p:List Nd) (hw:tX p) (h:dX p=false):FQ 23 [ao p] 0 [] (tf [(0,1)]) 0 []:=by
 have hv:=gt p hw;rw[h] at hv;refine wW Tryz.func23 ?_
 repeat'(first|refine y1 ?_|refine y2 ?_ ?_|refine an hv ?_|refine Ex.fz 2 (λk=>bX ([(0,1)].getD k (0,0))) 2 rfl rfl rfl rfl (λ_ _=>rfl) (λk j x hk hx=>wB hk hx) rfl rfl ?_|refine cW (.inl rfl) rfl (ah _) rfl|refine y3 ?_|exact y5|fail)
theorem BL (hp:p.length<=2048) (hw:tX p) (hI:re p) (h:dX p=true) (ha:t.At p 0) (hv:t.V (List.replicate t.cnt (false,68))) (hs:t.size=p.length):
 FQ 23 [ao p] 0 [] (tf (zF p t)) 0 []:=by
 have hsz:(Tryz.prog.types[112]).size=2:=bd;have hby:(Tryz.prog.types[112]).bytes=16:=bd;have hvl:=gt p hw;rw[h] at hvl;have hin:=wh p hp hw t ha hv hs
 have hcd:=λi (hi:i<t.size)=>DU hp hw hI ha hv hs hi
 show FQ 23 [ao p] 0 [] (tf (jS p t t.size)) 0 [];rw[hs];generalize be p t=L at*;refine wW Tryz.func23 ?_
 repeat'(first|refine yA ?_|refine y2 ?_ ?_|refine an hvl ?_|refine an hin ?_|exact y5|fail)
 refine fN 3 (.s (.row 0 1 0)) (VLe.s SLe.nilrow) rfl (Ex.upN (n':=2) aa ?_);refine cD (σ:=Nat) (λi=>[(3,.s (.row 0 1 (jS p t i).length)),(5,nI i)]) (λi=>[(0,bv 0 (jS p t i))]) (λi=>i<=p.length) (λi=>p.length-i) 0 rfl (λ_=>rfl) (Z08 _) bc trivial ?_;intro i hi;by_cases hlt:i<p.length
 ·have hc:=hcd i aa
  have hl10:=nW p t i;have hsu:=mW (p:=p) (t:=t) i;have hgl:=o0 (p:=p) (t:=t) i;generalize fM p t i=cs at*;generalize jS p t i=Gi at*
  repeat'(first|refine yA ?_|refine y2 ?_ ?_|refine y4 λh=>?_|refine an hc ?_|exact y5|fail)
  refine cD (σ:=Nat) (λk=>[(3,.s (.row 0 1 (Gi++(cs.take k).map λc=>(i,c)).length)),(7,nI k)]) (λk=>[(0,bv 0 (Gi++(cs.take k).map λc=>(i,c)))]) (λk=>k<=cs.length) (λk=>cs.length-k) 0 rfl (λ_=>rfl) (Z08 _) ⟨bp av,ah _,trivial⟩ (iN (by simp;rfl) trivial) ?_;intro k hk;by_cases hkl:k<cs.length
  ·have hts:(Gi++(cs.take (k+1)).map λc=>(i,c))=(Gi++(cs.take k).map λc=>(i,c))++[(i,cs.getD k 0)]:=by
    rw[Z49,Z01 hkl,Z00,Z01 hkl,Z0d,Z14];rfl
   have hgk:(Gi++(cs.take k).map λc=>(i,c)).length<=10*i+10:=by rw[Z03,Z0z,Z19];omega
   generalize hGG:(Gi++(cs.take k).map λc=>(i,c))=G at*;have hfl:(G.flatMap bX).length=G.length*2:=lT (g:=bX) (w:=2) (λ_=>rfl) G
   repeat'(first|refine y1 ?_|refine y2 ?_ ?_|refine y4 λh=>?_|refine jC (i:=0) (g:=1) (m:=G.length) (w:=2) (cs:=G.flatMap bX) (foot:=[2]) (k:=1) (add:=bX (i,cs.getD k 0)) rfl rfl hfl rfl rfl rfl rfl rfl rfl rfl hsz ac rfl ⟨Z02 _,rfl⟩ ac (by simp[bX]) rfl (by rw[hby];omega) aa rfl ?_|refine y3 ?_|exact y5|fail)
   refine fq (k+1) aa aa [3,4] rfl ?_ ?_ ?_
   ·rw[hts]
    repeat'(first|exact ah _|exact cT _|exact Z0o|(refine bp (congrArg V.s (?_:S.row 3 4 _=S.row 3 4 _));simp;done)|refine⟨?_,?_⟩)
   ·rw[hts]
    refine bN ?_ trivial;rw[Z0r];rfl
   ·rw[hts];unfold bv;generalize List.flatMap _ _=cg;cases cg<;>rfl
  ·rw[Z1l aa,<-hsu]
   repeat'(first|refine yA ?_|refine y2 ?_ ?_|refine y4 λh=>?_|exact y5|fail)
   refine dT (i+1) aa aa rfl ⟨ah _,bp (congrArg nI (by push_cast;rfl)),trivial⟩ (iN rfl trivial) rfl ?_ ac
   unfold bv;generalize List.flatMap _ _=cg;cases cg<;>rfl
 ·have hi':i=p.length:=aa
  subst hi';generalize jS p t p.length=G at*
  repeat'(first|refine y1 ?_|refine y2 ?_ ?_|refine y4 λh=>?_|refine Ex.fzR 2 bX 2 (0,0) G rfl rfl (λ_=>rfl) (λa j x h=>DN h) ac rfl rfl ?_|refine cW (.inl rfl) rfl (ah _) rfl|refine y3 ?_|exact y5|fail)
theorem Bz (hp:p.length<=2048) (hw:tX p) (h:dX p=true) (ha:t.At p 0) (hv:t.V (List.replicate t.cnt (false,68))) (hs:t.size=p.length):
 FQ 24 [ao p] 0 [] (dcF (gY p t t.size)) 0 []:=by
 have hsz:(Tryz.prog.types[58]).size=3:=bd;have hby:(Tryz.prog.types[58]).bytes=32:=bd;have hvl:=gt p hw;rw[h] at hvl;have hin:=wh p hp hw t ha hv hs
 have hpt:=λi (hi:i<t.size)=>jV (p:=p) hi
 have hLl:(be p t).length=p.length:=by rw[dP,hs]
 rw[hs] at hpt |-;generalize be p t=L at*;refine wW Tryz.func24 ?_
 repeat'(first|refine yA ?_|refine y2 ?_ ?_|refine an hvl ?_|refine an hin ?_|exact y5|fail)
 refine fN 3 (.s (.row 0 1 0)) (VLe.s SLe.nilrow) rfl (Ex.upN (n':=2) aa ?_);refine cD (σ:=Nat) (λi=>[(3,.s (.row 0 1 (gY p t i).length)),(5,nI i)]) (λi=>[(0,jl 0 (gY p t i))]) (λi=>i<=p.length) (λi=>p.length-i) 0 rfl (λ_=>rfl) (Z08 _) bc trivial ?_;intro i hi;by_cases hlt:i<p.length
 ·have hsu:=i6 (p:=p) (t:=t) i
  have hgl:=nP (p:=p) (t:=t) i;have hpi:=hpt i hlt;unfold lB at hsu;rw[<-hpi] at hsu
  by_cases he:(L.getD i ini).path=[]
  ·rw[if_pos he,Z0u] at hsu
   repeat'(first|refine yA ?_|refine y2 ?_ ?_|refine y4 λh=>?_|exact y5|fail)
   refine dT (i+1) aa aa rfl ⟨bp (by rw[hsu];rfl),bp (congrArg nI (by push_cast;rfl)),trivial⟩ (iN (by rw[hsu];rfl) trivial) rfl ?_ ac
   unfold jl;generalize List.flatMap _ _=cg;cases cg<;>rfl
  ·rw[if_neg he] at hsu
   generalize gY p t i=D at*;have hfl:(D.flatMap gZ).length=D.length*3:=lT (g:=gZ) (w:=3) (λ_=>rfl) D
   repeat'(first|refine y1 ?_|refine y2 ?_ ?_|refine y4 λh=>?_|refine jC (i:=0) (g:=1) (m:=D.length) (w:=3) (cs:=D.flatMap gZ) (foot:=[2]) (k:=1) (add:=gZ ⟨(L.getD i ini).path,(p.getD i dN).op,i⟩) rfl rfl hfl rfl rfl rfl rfl rfl rfl rfl hsz ac rfl ⟨Z02 _,rfl⟩ ac (by simp[gZ]) rfl (by rw[hby];omega) aa rfl ?_|refine y3 ?_|exact y5|fail)
   refine fq (i+1) aa aa [3,4] rfl ?_ ?_ ?_
   ·rw[hsu]
    repeat'(first|exact ah _|exact cT _|exact Z0o|(refine bp (congrArg V.s (?_:S.row 3 4 _=S.row 3 4 _));simp;done)|refine⟨?_,?_⟩)
   ·rw[hsu]
    refine bN ?_ trivial;rw[Z0r];rfl
   ·rw[hsu];unfold jl;generalize List.flatMap _ _=cg;cases cg<;>rfl
 ·have hi':i=p.length:=aa
  subst hi';generalize gY p t p.length=D at*
  repeat'(first|refine y1 ?_|refine y2 ?_ ?_|refine y4 λh=>?_|refine Ex.fzR 2 gZ 3 dD D rfl rfl (λ_=>rfl) (λa j x h=>DS h) ac rfl rfl ?_|refine cW (.inl rfl) rfl (ah _) rfl|refine y3 ?_|exact y5|fail)
end
