import Derived.Test.YtegjgpldfgjoiaaGreatDoorCnM35
import Derived.Test.YtegjgpldfgjoiaaGreatDoorCnM29
set_option linter.all false
namespace Go.Proofs.YtegjgpldfgjoiaaGreatDoor
open Go Ab
set_option maxRecDepth 100000
set_option maxHeartbeats 40000000
section
variable {i:Nat}
section
variable {p:List Nd} {t:Fo} {cs:List (Bool×Int)}
def fb (p:List Nd) (t:Fo) (i k:Nat):Int:=jx (be p t) (aL (aC t i).sc (ah (p.getD (i+1+k) dN).str).1)
def fW (p:List Nd) (t:Fo) (i:Nat):Bool:=
 if (p.getD i dN).op=16 then decide (fb p t i 0<0)||decide ((p.getD (fb p t i 0).toNat dN).op≠15)
 else if (p.getD i dN).op=17 then decide (fb p t i 0<0)||decide ((p.getD (fb p t i 0).toNat dN).op≠18)||decide (fb p t i 1<0)||decide ((p.getD (fb p t i 1).toNat dN).op≠18)
 else false
theorem eO (p:List Nd) (t:Fo):(be p t).length=t.size:=by simp[be]
theorem gc (hi:i<t.size):(be p t).getD i ini=jL p t i:=by rw[Z00,uE hi];rfl
theorem BJ (i:Nat):(jL p t i).sc=(aC t i).sc:=by unfold jL mK;split<;>rfl
theorem n9 (i:Nat):(jL p t i).me=(aC t i).me/\(jL p t i).lo=(aC t i).lo/\(jL p t i).pa=(aC t i).pa:=by unfold jL mK;split<;>exact⟨rfl,rfl,rfl⟩
theorem xO (p:List Nd) (t:Fo) (i k:Nat):fb p t i k= -1\/∃ q:Nat,fb p t i k=(q:Int)/\q<t.size:=by
 have:=xP (be p t) (aL (aC t i).sc (ah (p.getD (i+1+k) dN).str).1);rw[eO] at this;exact this
theorem Bq (hp:p.length<=2048) (hw:pn p) (hs:t.size=p.length) (hi:i<t.size) (k:Nat) {q:Nat} (hq:q=i+1+k):
 FC Tryz.prog 171 [lL (be p t),gw ((be p t).getD i ini).sc,sV (p.getD q dN).str] 0 [] (nI (fb p t i k)) 0 []:=by
 subst hq;rw[gc hi,BJ];exact Hw (be p t) (by rw[eO];omega) _ (dr (gO t i)) _ (fZ hw _)
theorem GI (hp:p.length<=2048) (hw:pn p) (ha:t.At p 0) (hv:t.V cs) (hs:t.size=p.length) (hi:i<t.size):FC Tryz.prog 110 [al p,lL (be p t),nI i] 0 [] (bV (fW p t i)) 0 []:=by
 have hk1:=eh hp ha hv hs hi;unfold fW;have hip:i<p.length:=aa
 have hiL:i<(be p t).length:=by rw[eO];exact hi
 have hlead:=λk=>jg ha hv hi (k:=k)
 have hR:=λk q=>Bq (k:=k) (q:=q) hp hw hs hi
 have hB:=xO p t i;by_cases h16:(p.getD i dN).op=16
 ·rw[if_pos h16]
  obtain⟨l1,l2,l3⟩:=hlead 0 (by rw[h16];decide);have r0:=hR 0 _ l1;have b0:=hB 0;have hkp:((t.kid 0 i).starts (i+1)).getD 0 0<p.length:=aa;generalize (t.kid 0 i).starts (i+1)=ks at*;generalize fb p t i 0=ra at*;generalize be p t=L at*;clear hlead hR hB;refine wW Tryz.func110 ?_
  rcases b0 with rfl|⟨q,rfl,hq⟩
  ·rw[decide_eq_true ac,Z3e]
   repeat'(first|exact y0|refine y1 ?_|refine y2 ?_ ?_|refine y4 λh=>?_|refine wX 105 (pu hk1 ?_)|refine wX 171 (pu r0 ?_)|refine Fin.bool (.inl rfl) rfl ?_|refine y3 ?_|exact y5|fail)
   all_goals try first|exact l2|exact hkp|exact hiL|rfl
  ·have hqp:q<p.length:=aa
   rw[Z12,decide_eq_false aa,Z46]
   repeat'(first|exact y0|refine y1 ?_|refine y2 ?_ ?_|refine y4 λh=>?_|refine wX 105 (pu hk1 ?_)|refine wX 171 (pu r0 ?_)|refine Fin.bool (.inl rfl) rfl ?_|refine y3 ?_|exact y5|fail)
   all_goals try first|exact l2|exact hkp|exact hiL|exact hqp|exact (decide_eq_true (by assumption)).symm|exact (decide_eq_false (λh=>h (by assumption))).symm
 ·rw[if_neg h16]
  by_cases h17:(p.getD i dN).op=17
  ·rw[if_pos h17]
   obtain⟨l1,l2,l3⟩:=hlead 0 (by rw[h17];decide);obtain⟨m1,m2,m3⟩:=hlead 1 (by rw[h17];decide);have r0:=hR 0 _ l1;have b0:=hB 0;have r1:=hR 1 _ m1;have b1:=hB 1;have hkp:((t.kid 0 i).starts (i+1)).getD 0 0<p.length:=aa;have hkp1:((t.kid 0 i).starts (i+1)).getD 1 0<p.length:=aa;generalize (t.kid 0 i).starts (i+1)=ks at*;generalize fb p t i 0=ra at*;generalize fb p t i 1=rb at*;generalize be p t=L at*;clear hlead hR hB;refine wW Tryz.func110 ?_
   rcases b0 with rfl|⟨q,rfl,hq⟩
   ·rw[decide_eq_true ac,Z3e,Z3e,Z3e]
    repeat'(first|exact y0|refine y1 ?_|refine y2 ?_ ?_|refine y4 λh=>?_|refine wX 105 (pu hk1 ?_)|refine wX 171 (pu r0 ?_)|refine wX 171 (pu r1 ?_)|refine Fin.bool (.inl rfl) rfl ?_|refine y3 ?_|exact y5|fail)
    all_goals try first|exact l2|exact m2|exact hkp|exact hkp1|exact hiL|rfl
   ·have hqp:q<p.length:=aa
    rw[Z12,decide_eq_false aa,Z46]
    rcases b1 with rfl|⟨q1,rfl,hq1⟩
    ·rw[decide_eq_true (show (-1:Int)<0 by decide),Z4m,Z3e]
     repeat'(first|exact y0|refine y1 ?_|refine y2 ?_ ?_|refine y4 λh=>?_|refine wX 105 (pu hk1 ?_)|refine wX 171 (pu r0 ?_)|refine wX 171 (pu r1 ?_)|refine Fin.bool (.inl rfl) rfl ?_|refine y3 ?_|exact y5|fail)
     all_goals try first|exact l2|exact m2|exact hkp|exact hkp1|exact hiL|exact hqp|rfl
    ·have hqp1:q1<p.length:=aa
     rw[Z12,decide_eq_false (show ¬(q1:Int)<0 by omega),Z41]
     repeat'(first|exact y0|refine y1 ?_|refine y2 ?_ ?_|refine y4 λh=>?_|refine wX 105 (pu hk1 ?_)|refine wX 171 (pu r0 ?_)|refine wX 171 (pu r1 ?_)|refine Fin.bool (.inl rfl) rfl ?_|refine y3 ?_|exact y5|fail)
     all_goals try first|exact l2|exact m2|exact hkp|exact hkp1|exact hiL|exact hqp|exact hqp1|(rw[decide_eq_true (p:=(p.getD q dN).op≠18) (by assumption)];rfl)|(rw[decide_eq_false (p:=(p.getD q dN).op≠18) aa,Z46];first|exact (decide_eq_true (by assumption)).symm|exact (decide_eq_false aa).symm)
  ·rw[if_neg h17]
   refine wW Tryz.func110 ?_
   repeat'(first|exact y0|refine y1 ?_|refine y2 ?_ ?_|refine y4 λh=>?_|refine wX 105 (pu hk1 ?_)|refine Fin.bool (.inl rfl) rfl ?_|refine y3 ?_|exact y5|fail)
   all_goals rfl
def py (p:List Nd) (i:Nat):List Nat->Bool
 |[]=>false
 |k::l=>if k=i then false else if (p.getD k dN).op=33\/(p.getD k dN).op=34\/(p.getD k dN).op=35 then true else py p i l
def nH (p:List Nd) (t:Fo) (i:Nat):Bool:=if (aC t i).pa<0 then false else if (p.getD (aC t i).pa.toNat dN).op=4 then py p i ((t.kid 0 (aC t i).pa.toNat).starts ((aC t i).pa.toNat+1)) else false
theorem IY (hp:p.length<=2048) (ha:t.At p 0) (hv:t.V cs) (hs:t.size=p.length) (hi:i<t.size):FC Tryz.prog 113 [al p,lL (be p t),nI i] 0 [] (bV (nH p t i)) 0 []:=by
 have hip:i<p.length:=aa
 have hiL:i<(be p t).length:=by rw[eO];exact hi
 have hpa:((be p t).getD i ini).pa=(aC t i).pa:=by rw[gc hi];exact (n9 i).2.2
 unfold nH
 rcases er ha hi with ⟨_,h2⟩|⟨m,h2,h3,h4⟩
 ·rw[h2] at hpa |-
  rw[if_pos ac];have hpa:((be p t).getD i ini).pa= -1:=hpa;generalize be p t=L at*;refine wW Tryz.func113 ?_
  repeat'(first|exact y0|refine y1 ?_|refine y2 ?_ ?_|refine y4 λh=>?_|refine Fin.bool (.inl rfl) rfl ?_|refine y3 ?_|exact y5|fail)
  all_goals try first|exact hiL|rfl|omega
 ·rw[h3] at hpa |-
  rw[if_neg aa,Z12];have hmp:m<p.length:=aa;have hk1:=eh hp ha hv hs (show m<t.size by omega)
  have hkb:∀ j∈(t.kid 0 m).starts (m+1),j<p.length:=λj hj=>by have:=(eB ha (show m<t.size by omega) hj).2.1;omega
  have hkn:((t.kid 0 m).starts (m+1)).length<=2048:=by
   have g1:=Fo.cnt_le (t.kid 0 m);have g2:=bm (t:=t) (Z08 m) aa;rw[bp];omega
  generalize (t.kid 0 m).starts (m+1)=ks at*;generalize be p t=L at*;by_cases hop:(p.getD m dN).op=4
  ·rw[if_pos hop]
   generalize hR:py p i ks=R;refine wW Tryz.func113 ?_
   repeat'(first|refine RegX.eqv 14 (congrArg nI hpa) rfl ?_|exact y0|refine y1 ?_|refine y2 ?_ ?_|refine y4 λh=>?_|refine y3 ?_|exact y5|fail)
   all_goals try exact hiL
   refine RegX.chunkN 7 rfl rfl ?_ (RegX.eqv 22 (congrArg nI hpa) rfl ?_)
   ·(repeat' (first|exact Z0o|exact hiL|refine And.intro ?_ ?_))
   repeat'(first|refine RegX.eqv 33 (congrArg nI hpa) rfl ?_|exact y0|refine y1 ?_|refine y2 ?_ ?_|refine y4 λh=>?_|refine wX 105 (pu hk1 ?_)|refine y3 ?_|exact y5|fail)
   all_goals try first|exact hmp|exact hiL
   refine Ex.inv (σ:=Nat) (λk=>[(8,nI k)]) (λ_=>[]) (λk=>k<=ks.length/\i∈ks.drop k/\py p i (ks.drop k)=R) (λk=>ks.length-k) 0 rfl (λ_=>rfl) ⟨Z08 _,h4,hR⟩ aV trivial ?_;rintro k ⟨hk,hik,hI⟩
   have hkl:k<ks.length:=by
    rcases Z0a k ks.length with h|h
    ·exact h
    ·rw[Z10 h] at hik;cases hik
   have hd:ks.drop k=ks.getD k 0::ks.drop (k+1):=by
    rw[Z0k hkl,Z00,Z01 hkl];rfl
   have hgp:ks.getD k 0<p.length:=hkb _ (by rw[Z00,Z01 hkl];exact Z0s _);rw[hd] at hik hI;simp only[py] at hI;by_cases he:ks.getD k 0=i
   ·rw[if_pos he] at hI
    repeat'(first|exact y0|refine y1 ?_|refine y2 ?_ ?_|refine y4 λh=>?_|refine Fin.bool (.inl rfl) rfl ?_|refine y3 ?_|exact y5|fail)
    all_goals try first|exact hkl|exact hI
   ·rw[if_neg he] at hI
    have hik:=(Z0h.1 hik).resolve_left (λh=>he h.symm);by_cases hs3:(p.getD (ks.getD k 0) dN).op=33\/(p.getD (ks.getD k 0) dN).op=34\/(p.getD (ks.getD k 0) dN).op=35
    ·rw[if_pos hs3] at hI
     repeat'(first|exact y0|refine y1 ?_|refine y2 ?_ ?_|refine y4 λh=>?_|refine Fin.bool (.inl rfl) rfl ?_|refine y3 ?_|exact y5|fail)
     all_goals try first|exact hkl|exact hgp|exact hI
    ·rw[if_neg hs3] at hI
     repeat'(first|exact y0|refine y1 ?_|refine y2 ?_ ?_|refine y4 λh=>?_|refine y3 ?_|exact y5|fail)
     all_goals try first|exact hkl|exact hgp
     refine LoopR.same (k+1) ⟨aa,hik,hI⟩ aa rfl ⟨VLe.of_eq (congrArg nI (by push_cast;rfl)),trivial⟩ trivial rfl rfl ac
  ·rw[if_neg hop]
   refine wW Tryz.func113 ?_
   repeat'(first|refine RegX.eqv 14 (congrArg nI hpa) rfl ?_|exact y0|refine y1 ?_|refine y2 ?_ ?_|refine y4 λh=>?_|refine y3 ?_|exact y5|fail)
   all_goals try exact hiL
   refine RegX.chunkN 7 rfl rfl ?_ (RegX.eqv 22 (congrArg nI hpa) rfl ?_)
   ·(repeat' (first|exact Z0o|exact hiL|refine And.intro ?_ ?_))
   repeat'(first|exact y0|refine y1 ?_|refine y2 ?_ ?_|refine y4 λh=>?_|refine Fin.bool (.inl rfl) rfl ?_|refine y3 ?_|exact y5|fail)
   all_goals try first|exact hmp|exact hiL|rfl
end
end
section
variable {p:List Nd} {t:Fo}
theorem wG {path:By} {m:Nat}:(cQ p t path m).isSome=true↔∃ k,k<m/\bF p t k=path:=by
 cases h:cQ p t path m with
 |none=>exact⟨λq=>(by cases q),λ⟨k,h1,h2⟩=>absurd h2 (iS h k h1)⟩
 |some i=>exact⟨λ_=>⟨i,(gi h).1,(gi h).2.1⟩,λ_=>rfl⟩
theorem oS (s:By):∀ (l:List Inf) (i:Nat),(ep s l i= -1/\∀ k,k<l.length->(l.getD k ini).path≠s)\/∃ k,ep s l i=((i+k:Nat):Int)/\k<l.length/\(l.getD k ini).path=s/\∀ m,m<k->(l.getD m ini).path≠s
 |[],i=> .inl ⟨rfl,λk hk=>by simp at hk⟩
 |x::l,i=>by
  simp only[ep];by_cases h:x.path=s
  ·rw[if_pos h]
   exact .inr ⟨0,by rw[Z0p],an,h,λm hm=>by omega⟩
  ·rw[if_neg h]
   rcases oS s l (i+1) with ⟨h1,h2⟩|⟨k,h1,h2,h3,h4⟩
   ·refine .inl ⟨h1,λk hk=>?_⟩
    cases k with
    |zero=>exact h
    |succ k=>exact h2 k (by simpa using hk)
   ·refine .inr ⟨k+1,by rw[h1,show i+1+k=i+(k+1) by omega],by simpa using h2,h3,λm hm=>?_⟩
    cases m with
    |zero=>exact h
    |succ m=>exact h4 m aa
theorem mY {k:Nat} (hk:k<t.size):((be p t).getD k ini).path=bF p t k:=by rw[gc hk];rfl
theorem hZ (s:By):(di (be p t) s= -1/\∀ k,k<t.size->bF p t k≠s)\/∃ k:Nat,di (be p t) s=(k:Int)/\k<t.size/\bF p t k=s/\∀ m,m<k->bF p t m≠s:=by
 rcases oS s (be p t) 0 with ⟨h1,h2⟩|⟨k,h1,h2,h3,h4⟩
 ·rw[eO] at h2
  exact .inl ⟨h1,λk hk=>by rw[<-mY hk];exact h2 k hk⟩
 ·rw[eO] at h2
  refine .inr ⟨k,by unfold di;rw[h1,Z0c],h2,by rw[<-mY h2];exact h3,λm hm=>by rw[<-mY aa];exact h4 m hm⟩
def pb (p:List Nd):List Nat->Nat->Int->Option Int
 |[],_,_=>none
 |k::l,i,bit=>if k=i then some bit else if aK p k then none else pb p l i (bit+if (p.getD k dN).op=19 then ai p (k+1) else ai p (k+2))
def mN (t:Fo) (i:Nat):Nat:=(aC t (aC t i).pa.toNat).pa.toNat
def vW (p:List Nd) (i:Nat) (len w:Int) (b:Option Int):Bool:=match b with|none=>false|some bit=>decide (8*len<((bit+ai p (i+2)-1).tdiv (8*w)+1)*(8*w))
def fe (p:List Nd) (t:Fo) (i:Nat):Bool:=
 if (p.getD i dN).op=18/\(p.getD (mN t i) dN).op=16/\fW p t (mN t i)=false/\aK p (mN t i)=false/\aK p i=false/\aK p (fb p t (mN t i) 0).toNat=false then
  vW p i (ai p ((fb p t (mN t i) 0).toNat+4)) (ai p (mN t i+2)) (pb p ((t.kid 0 (aC t i).pa.toNat).starts ((aC t i).pa.toNat+1)) i 0)
 else false
def DE (p:List Nd) (t:Fo) (i:Nat):Bool:=decide ((p.getD i dN).op=7)&&decide (ai p ((aC t i).me.toNat+2)<=ai p i)
def zI (p:List Nd) (t:Fo) (i:Nat):Bool:=decide ((p.getD i dN).op=34\/(p.getD i dN).op=35)&&decide ((aC t i).lo<0)
def F7 (p:List Nd) (t:Fo) (i:Nat):List Bool:=[false,false,ie p t i,mO p t i,aK p i,pC p i,fW p t i,fe p t i,zI p t i,DE p t i,nH p t i]
def fP (p:List Nd) (t:Fo) (i:Nat):List Nat:=(List.range' 1 10).filter λk=>(F7 p t i).getD k false
def ES (p:List Nd) (t:Fo):List (Nat×Nat):=(List.range t.size).flatMap λi=>(fP p t i).map λc=>(i,c)
end
section
variable {p:List Nd} {t:Fo}
theorem Ji {f:Nat} (h:(p.getD f dN).op=16) (ho:aK p f=false):ai p (f+2)=1\/ai p (f+2)=2\/ai p (f+2)=4\/ai p (f+2)=8:=by
 unfold aK at ho
 repeat (first|rw[if_pos h] at ho|rw[if_neg aa] at ho)
 unfold iY at ho;split at ho
 ·assumption
 ·cases ho
theorem GE (hI:pR p) {k:Nat} (h:(p.getD k dN).op=18) (ho:aK p k=false):1<=ai p (k+2)/\ai p (k+2)<=256:=by
 have:=ca hI (k+2);unfold aK at ho
 repeat (first|rw[if_pos h] at ho|rw[if_neg aa] at ho)
 simp at ho;unfold ai at*;omega
theorem Jg {k:Nat} (h:(p.getD k dN).op=19) (ho:aK p k=false):ai p (k+1)<=8388608:=by
 unfold aK at ho
 repeat (first|rw[if_pos h] at ho|rw[if_neg aa] at ho)
 simp at ho;omega
theorem Jj {q:Nat} (h:(p.getD q dN).op=15) (ho:aK p q=false):ai p (q+4)<=1048576:=by
 unfold aK at ho
 repeat (first|rw[if_pos h] at ho|rw[if_neg aa] at ho)
 simp[im] at ho;omega
theorem Jf (hp:p.length<=2048) (hw:pn p) (hI:pR p) (ha:t.At p 0) (hv:t.V (List.replicate t.cnt (false,68))) (hs:t.size=p.length) {i:Nat} (hi:i<t.size):
 FC Tryz.prog 111 [al p,lL (be p t),nI i] 0 [] (bV (fe p t i)) 0 []:=by
 have hip:i<p.length:=aa
 have hLl:(be p t).length=p.length:=by rw[eO,hs]
 have hge:∀ j,0<=ai p j:=λj=>ca hI j
 by_cases h18:(p.getD i dN).op=18
 ·obtain⟨f,b,hfb,hbi,hpb,hpf,h4,hf,hib,hbf,hun⟩:=xw ha hv hi h18
  have hpi:((be p t).getD i ini).pa=(b:Int):=by rw[gc hi];exact (n9 i).2.2.trans hpb
  have hpB:((be p t).getD b ini).pa=(f:Int):=by rw[gc aa];exact (n9 b).2.2.trans hpf
  have hf0:mN t i=f:=by unfold mN;rw[hpb,Z12,hpf,Z12]
  unfold fe;rw[hf0,hpb,Z12];by_cases h16:(p.getD f dN).op=16
  ·have hno:=GI hp hw ha hv hs (i:=f) aa
   have hrf:=uH hp hI ha hv hs (i:=f) aa;have hri:=uH hp hI ha hv hs hi;cases n1:fW p t f
   ·rw[n1] at hno
    cases n2:aK p f
    ·rw[n2,Z2f] at hrf
     cases n3:aK p i
     ·rw[n3,Z2f] at hri
      obtain⟨q,hq,hqt,hq15⟩:∃ q:Nat,fb p t f 0=(q:Int)/\q<t.size/\(p.getD q dN).op=15:=by
       unfold fW at n1;rw[if_pos h16,Z2y,decide_eq_false_iff_not,decide_eq_false_iff_not] at n1
       rcases xO p t f 0 with h|⟨q,h1,h2⟩
       ·omega
       ·refine⟨q,h1,h2,?_⟩
        have:=n1.2;rw[h1,Z12] at this;omega
      obtain⟨l1,l2,l3⟩:=jg ha hv (i:=f) aa (k:=0) (by rw[h16];decide);have r0:=Bq (k:=0) hp hw hs (i:=f) aa l1;rw[hq] at r0 |-;rw[Z12];have hrq:=uH hp hI ha hv hs hqt;have hkf:=eh hp ha hv hs (i:=f) aa;have hkp:((t.kid 0 f).starts (f+1)).getD 0 0<p.length:=aa;have hfp:f<p.length:=aa;cases n4:aK p q
      ·rw[n4,Z2f] at hrq
       rw[if_pos ⟨h18,h16,rfl,rfl,rfl,rfl⟩];have hkb:=eh hp ha hv hs (i:=b) aa;have nf:=oh hp ha hv hs (i:=f) aa 1 (by rw[h16];decide);have nq:=oh hp ha hv hs hqt 3 (by rw[hq15];decide);have ni:=oh hp ha hv hs hi 1 (by rw[h18];decide);have hw4:=Ji h16 n2;have hlen:=Jj hq15 n4;have hn18:=GE hI h18 n3;have hgq:=hge (q+4)
       have hrk:∀ j,j<t.size->FC Tryz.prog 108 [al p,nI j] 0 [] (bV (!aK p j)) 0 []:=λj hj=>uH hp hI ha hv hs hj
       have hnk:∀ (j k:Nat),j<t.size->k<qd (p.getD j dN).op->FC Tryz.prog 112 [al p,nI j,nI k] 0 [] (nU (ai p (j+1+k))) 0 []:=λj k hj hk=>oh hp ha hv hs hj k hk
       have hub:∀ j∈(t.kid 0 b).starts (b+1),j<p.length:=λj hj=>by have:=(eB ha (show b<t.size by omega) hj).2.1;omega
       have hkn:((t.kid 0 b).starts (b+1)).length<=2048:=by
        have g1:=Fo.cnt_le (t.kid 0 b);have g2:=bm (t:=t) (Z08 b) aa;rw[bp];omega
       have hno':=hno;generalize hR:vW p i (ai p (q+4)) (ai p (f+2)) (pb p ((t.kid 0 b).starts (b+1)) i 0)=R;have nf:FC Tryz.prog 112 [al p,nI f,nI (1:Nat)] 0 [] (nU (ai p (f+2))) 0 []:=nf;have nq:FC Tryz.prog 112 [al p,nI q,nI (3:Nat)] 0 [] (nU (ai p (q+4))) 0 []:=nq;have ni:FC Tryz.prog 112 [al p,nI i,nI (1:Nat)] 0 [] (nU (ai p (i+2))) 0 []:=ni;generalize (t.kid 0 f).starts (f+1)=ks at*;generalize (t.kid 0 b).starts (b+1)=us at*;generalize be p t=L at*;generalize ai p (f+2)=w at*;generalize ai p (q+4)=len at*;refine wW Tryz.func111 ?_
       repeat'(first|refine Ex.set 7 (nI b) (VLe.of_eq (congrArg nI hpi)) rfl ?_|refine Ex.set 8 (nI f) (VLe.of_eq (congrArg nI hpB)) rfl ?_|exact y0|refine y1 ?_|refine y2 ?_ ?_|refine y4 λh=>?_|refine wX 110 (pu hno ?_)|refine wX 108 (pu hrf ?_)|refine wX 108 (pu hri ?_)|refine wX 105 (pu hkf ?_)|refine wX 171 (pu r0 ?_)|refine wX 108 (pu hrq ?_)|refine wX 105 (pu hkb ?_)|refine y3 ?_|exact y5|fail)
       all_goals try first|omega|exact l2
       clear hno hno' hrf hri hrq r0 hkf hkb hpi hpB;refine Ex.inv (σ:=Nat×Int) (λx=>[(10,nU x.2),(12,nI x.1)]) (λ_=>[]) (λx=>x.1<=us.length/\i∈us.drop x.1/\(0<=x.2/\x.2<=x.1*8388608)/\vW p i len w (pb p (us.drop x.1) i x.2)=R) (λx=>us.length-x.1) (0,0) rfl (λ_=>rfl) ⟨Z08 _,hib,⟨Z2l _,an⟩,hR⟩ aV trivial ?_;rintro⟨k,bit⟩ ⟨hk,hik,⟨b1,b2⟩,hI2⟩;simp only at hk hik b1 b2 hI2 |-
       have hkl:k<us.length:=by
        rcases Z0a k us.length with h|h
        ·exact h
        ·rw[Z10 h] at hik;cases hik
       have hdr:us.drop k=us.getD k 0::us.drop (k+1):=by
        rw[Z0k hkl,Z00,Z01 hkl];rfl
       have hgm:us.getD k 0∈us:=by rw[Z00,Z01 hkl];exact Z0s _
       have hgp:=hub _ hgm;have hop2:=hun _ hgm;rw[hdr] at hik hI2;simp only[pb] at hI2;by_cases he:us.getD k 0=i
       ·rw[if_pos he] at hI2
        unfold vW at hI2;simp only at hI2;have h8:0<=8*w/\8*w<18446744073709551616/\8*w≠0:=aa;have A1:=aj (z:=bit+ai p (i+2)) aa aa;have A2:=aj (z:=bit+ai p (i+2)-1) aa aa;have A3:=aj (z:=8*w) h8.1 h8.2.1;have hQ:=xC (a:=bit+ai p (i+2)-1) (b:=8*w) aa aa;have hM:=B4 (q:=(bit+ai p (i+2)-1).tdiv (8*w)+1) hw4 aa
        have hM8:((bit+ai p (i+2)-1).tdiv (8*w)+1)*(8*w)=8*(((bit+ai p (i+2)-1).tdiv (8*w)+1)*w):=by rw[<-Int.mul_assoc,Int.mul_comm _ 8,Int.mul_assoc]
        have A4:=aj (z:=(bit+ai p (i+2)-1).tdiv (8*w)) hQ.1 aa;have A5:=aj (z:=(bit+ai p (i+2)-1).tdiv (8*w)+1) aa aa;have A6:=aj (z:=((bit+ai p (i+2)-1).tdiv (8*w)+1)*(8*w)) aa aa;have A7:=aj (z:=8*len) aa aa
        repeat'(first|exact y0|refine y1 ?_|refine y2 ?_ ?_|refine y4 λh=>?_|refine wX 112 (pu nf ?_)|refine wX 112 (pu ni ?_)|refine wX 112 (pu nq ?_)|refine Fin.bool (.inl rfl) rfl ?_|refine y3 ?_|exact y5|fail)
        all_goals try first
         |omega
         |exact A1
         |exact A2
         |exact A3
         |exact A4
         |exact A5
         |exact A6
         |exact A7
         |exact h8.2.2
         |exact hI2
         |exact (decide_eq_true (by first|assumption|omega)).symm.trans hI2
         |exact (decide_eq_false (by first|assumption|omega)).symm.trans hI2
       ·rw[if_neg he] at hI2
        have hik:=(Z0h.1 hik).resolve_left (λh=>he h.symm);have hru:=hrk (us.getD k 0) aa;have hge1:=hge (us.getD k 0+1);have hge2:=hge (us.getD k 0+2);cases ho:aK p (us.getD k 0)
        ·rw[ho,if_neg ac] at hI2
         rw[ho,Z2f] at hru;by_cases h19:(p.getD (us.getD k 0) dN).op=19
         ·rw[if_pos h19] at hI2
          have hnu:FC Tryz.prog 112 [al p,nI (us.getD k 0),nI (0:Nat)] 0 [] (nU (ai p (us.getD k 0+1))) 0 []:=hnk (us.getD k 0) 0 aa (by rw[h19];decide);have hb19:=Jg h19 ho
          repeat'(first|exact y0|refine y1 ?_|refine y2 ?_ ?_|refine y4 λh=>?_|refine wX 108 (pu hru ?_)|refine wX 112 (pu hnu ?_)|refine y3 ?_|exact y5|fail)
          all_goals try omega
          refine LoopR.same (k+1,bit+ai p (us.getD k 0+1)) ⟨by simp only;omega,hik,⟨by simp only;omega,by simp only;push_cast;omega⟩,hI2⟩ (by simp only;omega) rfl ⟨VLe.refl _,VLe.of_eq (congrArg nI (by push_cast;rfl)),trivial⟩ trivial rfl rfl ac
         ·rw[if_neg h19] at hI2
          have h18u:=hop2.resolve_right h19;have hnu:FC Tryz.prog 112 [al p,nI (us.getD k 0),nI (1:Nat)] 0 [] (nU (ai p (us.getD k 0+2))) 0 []:=hnk (us.getD k 0) 1 aa (by rw[h18u];decide);have hb18:=GE hI h18u ho
          repeat'(first|exact y0|refine y1 ?_|refine y2 ?_ ?_|refine y4 λh=>?_|refine wX 108 (pu hru ?_)|refine wX 112 (pu hnu ?_)|refine y3 ?_|exact y5|fail)
          all_goals try omega
          refine LoopR.same (k+1,bit+ai p (us.getD k 0+2)) ⟨by simp only;omega,hik,⟨by simp only;omega,by simp only;push_cast;omega⟩,hI2⟩ (by simp only;omega) rfl ⟨VLe.refl _,VLe.of_eq (congrArg nI (by push_cast;rfl)),trivial⟩ trivial rfl rfl ac
        ·rw[ho,if_pos rfl] at hI2
         rw[ho,Z2z] at hru
         repeat'(first|exact y0|refine y1 ?_|refine y2 ?_ ?_|refine y4 λh=>?_|refine wX 108 (pu hru ?_)|refine Fin.bool (.inl rfl) rfl ?_|refine y3 ?_|exact y5|fail)
         all_goals try first|omega|exact hI2
      ·rw[if_neg (by rintro⟨_,_,_,_,_,h⟩;cases h)]
       rw[n4,Z2z] at hrq;generalize (t.kid 0 f).starts (f+1)=ks at*;generalize be p t=L at*;refine wW Tryz.func111 ?_
       repeat'(first|refine Ex.set 7 (nI b) (VLe.of_eq (congrArg nI hpi)) rfl ?_|refine Ex.set 8 (nI f) (VLe.of_eq (congrArg nI hpB)) rfl ?_|exact y0|refine y1 ?_|refine y2 ?_ ?_|refine y4 λh=>?_|refine wX 110 (pu hno ?_)|refine wX 108 (pu hrf ?_)|refine wX 108 (pu hri ?_)|refine wX 105 (pu hkf ?_)|refine wX 171 (pu r0 ?_)|refine wX 108 (pu hrq ?_)|refine Fin.bool (.inl rfl) rfl ?_|refine y3 ?_|exact y5|fail)
       all_goals try first|omega|exact l2|rfl
     ·rw[if_neg (by rintro⟨_,_,_,_,h,_⟩;cases h)]
      rw[n3,Z2z] at hri;generalize be p t=L at*;refine wW Tryz.func111 ?_
      repeat'(first|refine Ex.set 7 (nI b) (VLe.of_eq (congrArg nI hpi)) rfl ?_|refine Ex.set 8 (nI f) (VLe.of_eq (congrArg nI hpB)) rfl ?_|exact y0|refine y1 ?_|refine y2 ?_ ?_|refine y4 λh=>?_|refine wX 110 (pu hno ?_)|refine wX 108 (pu hrf ?_)|refine wX 108 (pu hri ?_)|refine Fin.bool (.inl rfl) rfl ?_|refine y3 ?_|exact y5|fail)
      all_goals try first|omega|rfl
    ·rw[if_neg (by rintro⟨_,_,_,h,_⟩;cases h)]
     rw[n2,Z2z] at hrf;generalize be p t=L at*;refine wW Tryz.func111 ?_
     repeat'(first|refine Ex.set 7 (nI b) (VLe.of_eq (congrArg nI hpi)) rfl ?_|refine Ex.set 8 (nI f) (VLe.of_eq (congrArg nI hpB)) rfl ?_|exact y0|refine y1 ?_|refine y2 ?_ ?_|refine y4 λh=>?_|refine wX 110 (pu hno ?_)|refine wX 108 (pu hrf ?_)|refine Fin.bool (.inl rfl) rfl ?_|refine y3 ?_|exact y5|fail)
     all_goals try first|omega|rfl
   ·rw[if_neg (by rintro⟨_,_,h,_⟩;cases h)]
    rw[n1] at hno;generalize be p t=L at*;refine wW Tryz.func111 ?_
    repeat'(first|refine Ex.set 7 (nI b) (VLe.of_eq (congrArg nI hpi)) rfl ?_|refine Ex.set 8 (nI f) (VLe.of_eq (congrArg nI hpB)) rfl ?_|exact y0|refine y1 ?_|refine y2 ?_ ?_|refine y4 λh=>?_|refine wX 110 (pu hno ?_)|refine Fin.bool (.inl rfl) rfl ?_|refine y3 ?_|exact y5|fail)
    all_goals try first|omega|rfl
  ·rw[if_neg (by rintro⟨_,h,_⟩;exact h16 h)]
   generalize be p t=L at*;refine wW Tryz.func111 ?_
   repeat'(first|refine Ex.set 7 (nI b) (VLe.of_eq (congrArg nI hpi)) rfl ?_|refine Ex.set 8 (nI f) (VLe.of_eq (congrArg nI hpB)) rfl ?_|exact y0|refine y1 ?_|refine y2 ?_ ?_|refine y4 λh=>?_|refine Fin.bool (.inl rfl) rfl ?_|refine y3 ?_|exact y5|fail)
   all_goals try first|omega|rfl
 ·unfold fe
  rw[if_neg (λh=>h18 h.1)];refine wW Tryz.func111 ?_
  repeat'(first|exact y0|refine y1 ?_|refine y2 ?_ ?_|refine y4 λh=>?_|refine Fin.bool (.inl rfl) rfl ?_|refine y3 ?_|exact y5|fail)
  all_goals try first|omega|rfl
end
end Go.Proofs.YtegjgpldfgjoiaaGreatDoor
