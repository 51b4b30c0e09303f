import Derived.Test.YtphdhedhhlfepaaGreatDoorCzC37
import Derived.Test.YtphdhedhhlfepaaGreatDoorCzC29
import Derived.Test.YtphdhedhhlfepaaGreatDoorCzC28
import Derived.Test.YtphdhedhhlfepaaGreatDoorCzC39
import Derived.Test.YtphdhedhhlfepaaGreatDoorCzC34
set_option linter.unusedSimpArgs false
set_option linter.unusedVariables false
namespace Go.Proofs.YtphdhedhhlfepaaGreatDoor
open Go Ab
set_option maxRecDepth 100000
set_option maxHeartbeats 2000000
section
variable {p:List Nd} {t:Fo}
theorem oor16 {f:Nat} (h:(p.getD f dN).op=16) (ho:oorB p f=false):numN p (f+2)=1∨numN p (f+2)=2∨numN p (f+2)=4∨numN p (f+2)=8:=by
 unfold oorB at ho
 repeat (first|rw[if_pos h] at ho|rw[if_neg (by omega)] at ho)
 unfold acsB at ho;split at ho
 ·assumption
 ·cases ho
theorem oor18 (hI:wfI p) {k:Nat} (h:(p.getD k dN).op=18) (ho:oorB p k=false):1≤numN p (k+2)∧numN p (k+2)≤256:=by
 have:=wfI_get hI (k+2);unfold oorB at ho
 repeat (first|rw[if_pos h] at ho|rw[if_neg (by omega)] at ho)
 simp at ho;unfold numN at*;omega
theorem oor19 {k:Nat} (h:(p.getD k dN).op=19) (ho:oorB p k=false):numN p (k+1)≤8388608:=by
 unfold oorB at ho
 repeat (first|rw[if_pos h] at ho|rw[if_neg (by omega)] at ho)
 simp at ho;omega
theorem oor15 {q:Nat} (h:(p.getD q dN).op=15) (ho:oorB p q=false):numN p (q+4)≤1048576:=by
 unfold oorB at ho
 repeat (first|rw[if_pos h] at ho|rw[if_neg (by omega)] at ho)
 simp[regB] at ho;omega
theorem out_c (hp:p.length≤2048) (hw:wfS p) (hI:wfI p) (ha:t.At p 0) (hv:t.V (List.replicate t.cnt (false,68))) (hs:t.size=p.length) {i:Nat} (hi:i<t.size):
 FC Tryz.prog 90 [nodes p,infV (infL p t),nI i] 0 [] (bV (outB p t i)) 0 []:=by
 have hip:i<p.length:=by omega
 have hLl:(infL p t).length=p.length:=by rw[infL_len,hs]
 have hge:∀ j,0≤numN p j:=fun j=>wfI_get hI j
 by_cases h18:(p.getD i dN).op=18
 ·obtain⟨f,b,hfb,hbi,hpb,hpf,h4,hf,hib,hbf,hun⟩:=unit_up ha hv hi h18
  have hpi:((infL p t).getD i ini).pa=(b:Int):=by rw[infL_at hi];exact (own_me i).2.2.trans hpb
  have hpB:((infL p t).getD b ini).pa=(f:Int):=by rw[infL_at (by omega)];exact (own_me b).2.2.trans hpf
  have hf0:fldN t i=f:=by unfold fldN;rw[hpb,Int.toNat_natCast,hpf,Int.toNat_natCast]
  unfold outB;rw[hf0,hpb,Int.toNat_natCast];by_cases h16:(p.getD f dN).op=16
  ·have hno:=noR_c hp hw ha hv hs (i:=f) (by omega)
   have hrf:=inR_c hp hI ha hv hs (i:=f) (by omega);have hri:=inR_c hp hI ha hv hs hi;cases n1:noRB p t f
   ·rw[n1] at hno
    cases n2:oorB p f
    ·rw[n2,Bool.not_false] at hrf
     cases n3:oorB p i
     ·rw[n3,Bool.not_false] at hri
      obtain⟨q,hq,hqt,hq15⟩:∃ q:Nat,resT p t f 0=(q:Int)∧q<t.size∧(p.getD q dN).op=15:=by
       unfold noRB at n1;rw[if_pos h16,Bool.or_eq_false_iff,decide_eq_false_iff_not,decide_eq_false_iff_not] at n1
       rcases resT_bd p t f 0 with h|⟨q,h1,h2⟩
       ·omega
       ·refine⟨q,h1,h2,?_⟩
        have:=n1.2;rw[h1,Int.toNat_natCast] at this;omega
      obtain⟨l1,l2,l3⟩:=lead_at ha hv (i:=f) (by omega) (k:=0) (by rw[h16];decide);have r0:=resT_c (k:=0) hp hw hs (i:=f) (by omega) l1;rw[hq] at r0 ⊢;rw[Int.toNat_natCast];have hrq:=inR_c hp hI ha hv hs hqt;have hkf:=kids_c hp ha hv hs (i:=f) (by omega)
      have hkp:((t.kid 0 f).starts (f+1)).getD 0 0<p.length:=by omega
      have hfp:f<p.length:=by omega
      cases n4:oorB p q
      ·rw[n4,Bool.not_false] at hrq
       rw[if_pos ⟨h18,h16,rfl,rfl,rfl,rfl⟩];have hkb:=kids_c hp ha hv hs (i:=b) (by omega);have nf:=num_c hp ha hv hs (i:=f) (by omega) 1 (by rw[h16];decide);have nq:=num_c hp ha hv hs hqt 3 (by rw[hq15];decide);have ni:=num_c hp ha hv hs hi 1 (by rw[h18];decide);have hw4:=oor16 h16 n2;have hlen:=oor15 hq15 n4;have hn18:=oor18 hI h18 n3;have hgq:=hge (q+4)
       have hrk:∀ j,j<t.size→FC Tryz.prog 87 [nodes p,nI j] 0 [] (bV (!oorB p j)) 0 []:=fun j hj=>inR_c hp hI ha hv hs hj
       have hnk:∀ (j k:Nat),j<t.size→k<leadN (p.getD j dN).op→FC Tryz.prog 91 [nodes p,nI j,nI k] 0 [] (nU (numN p (j+1+k))) 0 []:=fun j k hj hk=>num_c hp ha hv hs hj k hk
       have hub:∀ j∈(t.kid 0 b).starts (b+1),j<p.length:=fun j hj=>by have:=(ctx_kid ha (show b<t.size by omega) hj).2.1;omega
       have hkn:((t.kid 0 b).starts (b+1)).length≤2048:=by
        have g1:=Fo.cnt_le (t.kid 0 b);have g2:=kid_size (t:=t) (Nat.zero_le b) (by omega);rw[starts_len];omega
       have hno':=hno;generalize hR:ovrB p i (numN p (q+4)) (numN p (f+2)) (bitsR p ((t.kid 0 b).starts (b+1)) i 0)=R;have nf:FC Tryz.prog 91 [nodes p,nI f,nI (1:Nat)] 0 [] (nU (numN p (f+2))) 0 []:=nf;have nq:FC Tryz.prog 91 [nodes p,nI q,nI (3:Nat)] 0 [] (nU (numN p (q+4))) 0 []:=nq;have ni:FC Tryz.prog 91 [nodes p,nI i,nI (1:Nat)] 0 [] (nU (numN p (i+2))) 0 []:=ni;generalize (t.kid 0 f).starts (f+1)=ks at*;generalize (t.kid 0 b).starts (b+1)=us at*;generalize infL p t=L at*;generalize numN p (f+2)=w at*;generalize numN p (q+4)=len at*;refine FC.walk (by kernel_rfl) Tryz.func90 rfl rfl ?_
       repeat'(first|refine Ex.set 7 (nI b) (VLe.of_eq (congrArg nI hpi)) rfl ?_|refine Ex.set 8 (nI f) (VLe.of_eq (congrArg nI hpB)) rfl ?_|exact y0|refine y1 ?_|refine y2 ?_ ?_|(refine y8 ?_ ?_<;>intro h<;>try exact y6)|(refine wC ?_;first|refine wF 89 (pu hno ?_)|refine wF 87 (pu hrf ?_)|refine wF 87 (pu hri ?_)|refine wF 81 (pu hkf ?_)|refine wF 131 (pu r0 ?_)|refine wF 87 (pu hrq ?_)|refine wF 81 (pu hkb ?_))|refine y3 ?_|refine y7 ?_ ?_|refine y4 ?_|(refine y9 ?_ ?_<;>intro h)|exact y5|fail)
       all_goals try first|omega|exact l2
       clear hno hno' hrf hri hrq r0 hkf hkb hpi hpB;refine Ex.inv (σ:=Nat×Int) (fun x=>[(10,nU x.2),(12,nI x.1)]) (fun _=>[]) (fun x=>x.1≤us.length∧i∈us.drop x.1∧(0≤x.2∧x.2≤x.1*8388608)∧ovrB p i len w (bitsR p (us.drop x.1) i x.2)=R) (fun x=>us.length-x.1) (0,0) rfl (fun _=>rfl) ⟨Nat.zero_le _,hib,⟨Int.le_refl _,by simp⟩,hR⟩ ⟨VLe.refl _,VLe.refl _,trivial⟩ trivial ?_;rintro⟨k,bit⟩ ⟨hk,hik,⟨b1,b2⟩,hI2⟩;simp only at hk hik b1 b2 hI2 ⊢
       have hkl:k<us.length:=by
        rcases Nat.lt_or_ge k us.length with h|h
        ·exact h
        ·rw[List.drop_eq_nil_of_le h] at hik;cases hik
       have hdr:us.drop k=us.getD k 0::us.drop (k+1):=by
        rw[List.drop_eq_getElem_cons hkl,List.getD_eq_getElem?_getD,List.getElem?_eq_getElem hkl];rfl
       have hgm:us.getD k 0∈us:=by rw[List.getD_eq_getElem?_getD,List.getElem?_eq_getElem hkl];exact List.getElem_mem _
       have hgp:=hub _ hgm;have hop2:=hun _ hgm;rw[hdr] at hik hI2;simp only[bitsR] at hI2;by_cases he:us.getD k 0=i
       ·rw[if_pos he] at hI2
        unfold ovrB at hI2;simp only at hI2
        have h8:0≤8*w∧8*w<18446744073709551616∧8*w≠0:=by omega
        have A1:=u64_in (z:=bit+numN p (i+2)) (by omega) (by omega);have A2:=u64_in (z:=bit+numN p (i+2)-1) (by omega) (by omega);have A3:=u64_in (z:=8*w) h8.1 h8.2.1;have hQ:=tdiv_bd (a:=bit+numN p (i+2)-1) (b:=8*w) (by omega) (by omega);have hM:=mul_bd (q:=(bit+numN p (i+2)-1).tdiv (8*w)+1) hw4 (by omega)
        have hM8:((bit+numN p (i+2)-1).tdiv (8*w)+1)*(8*w)=8*(((bit+numN p (i+2)-1).tdiv (8*w)+1)*w):=by rw[←Int.mul_assoc,Int.mul_comm _ 8,Int.mul_assoc]
        have A4:=u64_in (z:=(bit+numN p (i+2)-1).tdiv (8*w)) hQ.1 (by omega);have A5:=u64_in (z:=(bit+numN p (i+2)-1).tdiv (8*w)+1) (by omega) (by omega);have A6:=u64_in (z:=((bit+numN p (i+2)-1).tdiv (8*w)+1)*(8*w)) (by omega) (by omega);have A7:=u64_in (z:=8*len) (by omega) (by omega)
        repeat'(first|exact y0|refine y1 ?_|refine y2 ?_ ?_|(refine y8 ?_ ?_<;>intro h<;>try exact y6)|(refine wC ?_;first|refine wF 91 (pu nf ?_)|refine wF 91 (pu ni ?_)|refine wF 91 (pu nq ?_))|refine Fin.bool (.inl rfl) rfl ?_|refine y3 ?_|refine y7 ?_ ?_|refine y4 ?_|(refine y9 ?_ ?_<;>intro h)|exact y5|fail)
        all_goals try first
         |omega
         |exact A1
         |exact A2
         |exact A3
         |exact A4
         |exact A5
         |exact A6
         |exact A7
         |exact h8.2.2
         |exact hI2
         |exact (decide_eq_true (by first|assumption|omega)).symm.trans hI2
         |exact (decide_eq_false (by first|assumption|omega)).symm.trans hI2
       ·rw[if_neg he] at hI2
        have hik:=(List.mem_cons.1 hik).resolve_left (fun h=>he h.symm);have hru:=hrk (us.getD k 0) (by omega);have hge1:=hge (us.getD k 0+1);have hge2:=hge (us.getD k 0+2);cases ho:oorB p (us.getD k 0)
        ·rw[ho,if_neg (by decide)] at hI2
         rw[ho,Bool.not_false] at hru;by_cases h19:(p.getD (us.getD k 0) dN).op=19
         ·rw[if_pos h19] at hI2
          have hnu:FC Tryz.prog 91 [nodes p,nI (us.getD k 0),nI (0:Nat)] 0 [] (nU (numN p (us.getD k 0+1))) 0 []:=hnk (us.getD k 0) 0 (by omega) (by rw[h19];decide);have hb19:=oor19 h19 ho
          repeat'(first|exact y0|refine y1 ?_|refine y2 ?_ ?_|(refine y8 ?_ ?_<;>intro h<;>try exact y6)|(refine wC ?_;first|refine wF 87 (pu hru ?_)|refine wF 91 (pu hnu ?_))|exact u64_in (by omega) (by omega)|refine y3 ?_|refine y7 ?_ ?_|refine y4 ?_|(refine y9 ?_ ?_<;>intro h)|exact y5|fail)
          all_goals try omega
          refine LoopR.same (k+1,bit+numN p (us.getD k 0+1)) ⟨by simp only;omega,hik,⟨by simp only;omega,by simp only;push_cast;omega⟩,hI2⟩ (by simp only;omega) rfl ⟨VLe.refl _,VLe.of_eq (congrArg nI (by push_cast;rfl)),trivial⟩ trivial rfl rfl (by decide)
         ·rw[if_neg h19] at hI2
          have h18u:=hop2.resolve_right h19;have hnu:FC Tryz.prog 91 [nodes p,nI (us.getD k 0),nI (1:Nat)] 0 [] (nU (numN p (us.getD k 0+2))) 0 []:=hnk (us.getD k 0) 1 (by omega) (by rw[h18u];decide);have hb18:=oor18 hI h18u ho
          repeat'(first|exact y0|refine y1 ?_|refine y2 ?_ ?_|(refine y8 ?_ ?_<;>intro h<;>try exact y6)|(refine wC ?_;first|refine wF 87 (pu hru ?_)|refine wF 91 (pu hnu ?_))|exact u64_in (by omega) (by omega)|refine y3 ?_|refine y7 ?_ ?_|refine y4 ?_|(refine y9 ?_ ?_<;>intro h)|exact y5|fail)
          all_goals try omega
          refine LoopR.same (k+1,bit+numN p (us.getD k 0+2)) ⟨by simp only;omega,hik,⟨by simp only;omega,by simp only;push_cast;omega⟩,hI2⟩ (by simp only;omega) rfl ⟨VLe.refl _,VLe.of_eq (congrArg nI (by push_cast;rfl)),trivial⟩ trivial rfl rfl (by decide)
        ·rw[ho,if_pos rfl] at hI2
         rw[ho,Bool.not_true] at hru
         repeat'(first|exact y0|refine y1 ?_|refine y2 ?_ ?_|(refine y8 ?_ ?_<;>intro h<;>try exact y6)|(refine wC ?_;first|refine wF 87 (pu hru ?_))|refine Fin.bool (.inl rfl) rfl ?_|refine y3 ?_|refine y7 ?_ ?_|refine y4 ?_|(refine y9 ?_ ?_<;>intro h)|exact y5|fail)
         all_goals try first|omega|exact hI2
      ·rw[if_neg (by rintro⟨_,_,_,_,_,h⟩;cases h)]
       rw[n4,Bool.not_true] at hrq;generalize (t.kid 0 f).starts (f+1)=ks at*;generalize infL p t=L at*;refine FC.walk (by kernel_rfl) Tryz.func90 rfl rfl ?_
       repeat'(first|refine Ex.set 7 (nI b) (VLe.of_eq (congrArg nI hpi)) rfl ?_|refine Ex.set 8 (nI f) (VLe.of_eq (congrArg nI hpB)) rfl ?_|exact y0|refine y1 ?_|refine y2 ?_ ?_|(refine y8 ?_ ?_<;>intro h<;>try exact y6)|(refine wC ?_;first|refine wF 89 (pu hno ?_)|refine wF 87 (pu hrf ?_)|refine wF 87 (pu hri ?_)|refine wF 81 (pu hkf ?_)|refine wF 131 (pu r0 ?_)|refine wF 87 (pu hrq ?_))|refine Fin.bool (.inl rfl) rfl ?_|refine y3 ?_|refine y7 ?_ ?_|refine y4 ?_|(refine y9 ?_ ?_<;>intro h)|exact y5|fail)
       all_goals try first|omega|exact l2|rfl
     ·rw[if_neg (by rintro⟨_,_,_,_,h,_⟩;cases h)]
      rw[n3,Bool.not_true] at hri;generalize infL p t=L at*;refine FC.walk (by kernel_rfl) Tryz.func90 rfl rfl ?_
      repeat'(first|refine Ex.set 7 (nI b) (VLe.of_eq (congrArg nI hpi)) rfl ?_|refine Ex.set 8 (nI f) (VLe.of_eq (congrArg nI hpB)) rfl ?_|exact y0|refine y1 ?_|refine y2 ?_ ?_|(refine y8 ?_ ?_<;>intro h<;>try exact y6)|(refine wC ?_;first|refine wF 89 (pu hno ?_)|refine wF 87 (pu hrf ?_)|refine wF 87 (pu hri ?_))|refine Fin.bool (.inl rfl) rfl ?_|refine y3 ?_|refine y7 ?_ ?_|refine y4 ?_|(refine y9 ?_ ?_<;>intro h)|exact y5|fail)
      all_goals try first|omega|rfl
    ·rw[if_neg (by rintro⟨_,_,_,h,_⟩;cases h)]
     rw[n2,Bool.not_true] at hrf;generalize infL p t=L at*;refine FC.walk (by kernel_rfl) Tryz.func90 rfl rfl ?_
     repeat'(first|refine Ex.set 7 (nI b) (VLe.of_eq (congrArg nI hpi)) rfl ?_|refine Ex.set 8 (nI f) (VLe.of_eq (congrArg nI hpB)) rfl ?_|exact y0|refine y1 ?_|refine y2 ?_ ?_|(refine y8 ?_ ?_<;>intro h<;>try exact y6)|(refine wC ?_;first|refine wF 89 (pu hno ?_)|refine wF 87 (pu hrf ?_))|refine Fin.bool (.inl rfl) rfl ?_|refine y3 ?_|refine y7 ?_ ?_|refine y4 ?_|(refine y9 ?_ ?_<;>intro h)|exact y5|fail)
     all_goals try first|omega|rfl
   ·rw[if_neg (by rintro⟨_,_,h,_⟩;cases h)]
    rw[n1] at hno;generalize infL p t=L at*;refine FC.walk (by kernel_rfl) Tryz.func90 rfl rfl ?_
    repeat'(first|refine Ex.set 7 (nI b) (VLe.of_eq (congrArg nI hpi)) rfl ?_|refine Ex.set 8 (nI f) (VLe.of_eq (congrArg nI hpB)) rfl ?_|exact y0|refine y1 ?_|refine y2 ?_ ?_|(refine y8 ?_ ?_<;>intro h<;>try exact y6)|(refine wC ?_;first|refine wF 89 (pu hno ?_))|refine Fin.bool (.inl rfl) rfl ?_|refine y3 ?_|refine y7 ?_ ?_|refine y4 ?_|(refine y9 ?_ ?_<;>intro h)|exact y5|fail)
    all_goals try first|omega|rfl
  ·rw[if_neg (by rintro⟨_,h,_⟩;exact h16 h)]
   generalize infL p t=L at*;refine FC.walk (by kernel_rfl) Tryz.func90 rfl rfl ?_
   repeat'(first|refine Ex.set 7 (nI b) (VLe.of_eq (congrArg nI hpi)) rfl ?_|refine Ex.set 8 (nI f) (VLe.of_eq (congrArg nI hpB)) rfl ?_|exact y0|refine y1 ?_|refine y2 ?_ ?_|(refine y8 ?_ ?_<;>intro h<;>try exact y6)|refine Fin.bool (.inl rfl) rfl ?_|refine y3 ?_|refine y7 ?_ ?_|refine y4 ?_|(refine y9 ?_ ?_<;>intro h)|exact y5|fail)
   all_goals try first|omega|rfl
 ·unfold outB
  rw[if_neg (fun h=>h18 h.1)];refine FC.walk (by kernel_rfl) Tryz.func90 rfl rfl ?_
  repeat'(first|exact y0|refine y1 ?_|refine y2 ?_ ?_|(refine y8 ?_ ?_<;>intro h<;>try exact y6)|refine Fin.bool (.inl rfl) rfl ?_|refine y3 ?_|refine y7 ?_ ?_|refine y4 ?_|(refine y9 ?_ ?_<;>intro h)|exact y5|fail)
  all_goals try first|omega|rfl
end
set_option maxRecDepth 100000
set_option maxHeartbeats 6000000
section
variable {p:List Nd} {t:Fo}
theorem dup_first {i:Nat} (hi:i<t.size) (hne:pathT p t i≠[]):dupN p t i=decide (firstR (infL p t) (pathT p t i)<(i:Int)):=by
 unfold dupN;rw[decide_eq_true hne,Bool.true_and,Bool.eq_iff_iff,decide_eq_true_eq,firstN_iff]
 rcases firstR_cases (p:=p) (t:=t) (pathT p t i) with ⟨_,h2⟩|⟨k,h1,h2,h3,h4⟩
 ·exact absurd rfl (h2 i hi)
 ·rw[h1]
  constructor
  ·rintro⟨m,m1,m2⟩
   rcases Nat.lt_or_ge m k with q|q
   ·exact absurd m2 (h4 m q)
   ·omega
  ·intro h
   exact⟨k,by omega,h3⟩
theorem bad_dcl (ha:t.At p 0) {i:Nat} (hi:i<t.size) (hd:declB (p.getD i dN).op=true):badN p t i=decide (pathT p t i=[]):=by
 have h:=pathT_ne (p:=p) ha hi;unfold badN;rw[hd,Bool.true_or,Bool.true_and]
 by_cases e:pathT p t i=[]
 ·rw[decide_eq_true e]
  cases q:okJ p t i with
  |false=>rfl
  |true=>exact absurd e (h.2 ⟨hd,q⟩)
 ·rw[decide_eq_false e,(h.1 e).2];rfl
theorem Ex.cutQ {P:Program} {b:Nat} {y:Code} {env:List V} {n:Nat} {L:Hp} {R:Post} (id N n':Nat) (X:List (Nat×V)) (H:Hp) {E:List V} {ops:Array Oper} {d:Bool} (hE:frcE (mkE X 0 N) [] some=some E) (h:Ex P b (.region id ops d) env n L (CutR b N n' X H)) (k:Ex P b y E n' H R):Ex P b (.seq (.region id ops d) y) env n L R:=Ex.seq (Ex.cut N n' X H hE h k)
def cdD (A:List Bool) (j:Nat):List Nat:=(List.range' 1 j).filter fun k=>A.getD k false
theorem cdD_succ (A:List Bool) (j:Nat):cdD A (j+1)=cdD A j++if A.getD (j+1) false=true then [j+1] else []:=by
 unfold cdD;rw[List.range'_1_concat,List.filter_append,Nat.add_comm 1 j,List.filter_cons,List.filter_nil]
theorem cdD_len (A:List Bool) (j:Nat):(cdD A j).length≤j:=by
 have:=List.length_filter_le (fun k=>A.getD k false) (List.range' 1 j);rw[List.length_range'] at this;exact this
abbrev abB (l:List Bool):Bl:={cells:=l.map S.bool,ty:=130}
theorem ld_ab {A:List Bool} {k:Nat} {b:Bool} (hl:k<A.length) (h:A.getD k false=b):ldAt false 1 (abB A) k=some (bV b):=by
 show (match (A.map S.bool)[k]? with|some x=>some (V.s x)|none=>none)=_;rw[List.getD_eq_getElem?_getD,List.getElem?_eq_getElem hl] at h;rw[List.getElem?_map,List.getElem?_eq_getElem hl];simp only[Option.getD_some] at h;rw[←h];rfl
theorem codesL_len (p:List Nd) (t:Fo) (i:Nat):(codesL p t i).length≤10:=by
 unfold codesL;have:=List.length_filter_le (fun k=>(addB p t i).getD k false) (List.range' 1 10)
 simpa using this
theorem codes_c (hp:p.length≤2048) (hw:wfS p) (hI:wfI p) (ha:t.At p 0) (hv:t.V (List.replicate t.cnt (false,68))) (hs:t.size=p.length) {i:Nat} (hi:i<t.size):
 FC Tryz.prog 52 [nodes p,infV (infL p t),nI i] 0 [] (.s (intsF (codesL p t i))) 0 []:=by
 have hsz:(Tryz.prog.types[3]).size=1:=by kernel_rfl
 have hby:(Tryz.prog.types[3]).bytes=8:=by kernel_rfl
 have hip:i<p.length:=by omega
 have hLl:(infL p t).length=p.length:=by rw[infL_len,hs]
 have hkc:=kids_c hp ha hv hs hi;have hdc:=declR_c (p.getD i dN).op;have hir:=inR_c hp hI ha hv hs hi;have hto:=too_c hp ha hv hs hi;have hnr:=noR_c hp hw ha hv hs hi;have hou:=out_c hp hw hI ha hv hs hi;have hun:=unr_c hp ha hv hs hi
 have hsc:((infL p t).getD i ini).sc=(ctxT t i).sc:=by rw[infL_at hi];exact own_sc i
 have hpt:((infL p t).getD i ini).path=pathT p t i:=path_at hi
 have hlo:((infL p t).getD i ini).lo=(ctxT t i).lo:=by rw[infL_at hi];exact (own_me i).2.1
 have hme:((infL p t).getD i ini).me=(ctxT t i).me:=by rw[infL_at hi];exact (own_me i).1
 have hfi:=firstR_c (infL p t) (by omega) (pathT p t i)
 have hsg:segOK ((infL p t).getD i ini).sc.segs:=by rw[hsc];exact segOK_abs (ctxT_abs t i)
 have hdf:=dup_first (p:=p) hi;have hbd:=bad_dcl (p:=p) ha hi;have hnm:=nm_at ha hv hi;have hprs:=parseR_c (p.getD (i+1) dN).str (wfS_get hw (i+1));have hjn:=joinR_c ((infL p t).getD i ini).sc (parseP (p.getD (i+1) dN).str).1 hsg (segOK_parse _)
 have hok:(p.getD i dN).op=10→okJ p t i=(joinP ((infL p t).getD i ini).sc (parseP (p.getD (i+1) dN).str).1).2:=fun h=>by
  unfold okJ;rw[hsc,(hnm (.inl h)).2.1]
 have hks:(p.getD i dN).op=10→((t.kid 0 i).starts (i+1)).getD 0 0=i+1∧0<((t.kid 0 i).starts (i+1)).length∧i+1<p.length:=fun h=>by
  obtain⟨a,b,c⟩:=hnm (.inl h);obtain⟨l,e⟩:=c;rw[e];exact⟨rfl,by simp,a⟩
 have hbm:=body_me ha hv i hi
 have hnum:∀ M,M<t.size→(p.getD M dN).op=14→FC Tryz.prog 91 [nodes p,nI M,nI (1:Nat)] 0 [] (nU (numN p (M+1+1))) 0 []:=fun M hM h=>num_c hp ha hv hs hM 1 (by rw[h];decide)
 have hge:∀ j,0≤numN p j:=fun j=>wfI_get hI j
 have hlo2:looB p t i=(decide ((p.getD i dN).op=34∨(p.getD i dN).op=35)&&decide (((infL p t).getD i ini).lo<0)):=by unfold looB;rw[hlo]
 obtain⟨c4,hc4⟩:∃ c,c= !oorB p i:=⟨_,rfl⟩
 have hc4':oorB p i= !c4:=by rw[hc4,Bool.not_not]
 rw[←hc4] at hir;unfold codesL addB;rw[hc4'];clear hc4 hc4' hlo hsc
 have hb2:badN p t i=(if (p.getD i dN).op=10 then !okJ p t i else if declB (p.getD i dN).op=true then decide (pathT p t i=[]) else false):=by
  by_cases h:(p.getD i dN).op=10
  ·unfold badN;rw[if_pos h,decide_eq_true h,Bool.or_true,Bool.true_and]
  ·rw[if_neg h]
   split
   ·rename_i hd;exact hbd hd
   ·rename_i hd
    have hd:declB (p.getD i dN).op=false:=by cases q:declB (p.getD i dN).op<;>simp_all
    unfold badN;rw[hd,decide_eq_false h];rfl
 have hb3:dupN p t i=(if declB (p.getD i dN).op=true then decide (pathT p t i≠[])&&decide (firstR (infL p t) (pathT p t i)<(i:Int)) else false):=by
  by_cases e:pathT p t i=[]
  ·unfold dupN;simp[e]
  ·rw[hdf e,decide_eq_true e,Bool.true_and,if_pos ((pathT_ne ha hi).1 e).1]
 have hx10:(p.getD i dN).op=10→declB (p.getD i dN).op=false:=fun h=>by unfold declB;rw[decide_eq_false (by omega)]
 clear hbd hdf hnm;generalize okJ p t i=ok at*;generalize badN p t i=b2 at*;generalize dupN p t i=b3 at*;generalize tooB p i=b5 at*;generalize noRB p t i=b6 at*;generalize outB p t i=b7 at*;generalize hb8:looB p t i=b8 at*;generalize hb9:argB p t i=b9 at*;generalize unrB p t i=b10 at*;unfold argB at hb9;rw[←hme] at hb9 hbm;generalize pathT p t i=P at*;generalize (t.kid 0 i).starts (i+1)=ks at*;generalize infL p t=L at*;generalize firstR L P=fr at*;rw[←hpt] at hfi
 obtain⟨B2,hB2⟩:∃ B,B=(if (p.getD i dN).op=10 then !ok else false):=⟨_,rfl⟩
 refine FC.walk (by kernel_rfl) Tryz.func52 rfl rfl ?_
 repeat'(first|refine Ex.cutS 3 159 1 [(0,nodes p),(1,infV L),(2,nI i),(7,.s (.slc none 0 (some 0))),(8,.s (.ptr (some (0,0))))] [(0,some (abB [false,false,B2,false,false,false,false,false,false,false,false]))] rfl (Hold.k ?_) (Hold.k ?_)|exact y0|refine y1 ?_|refine y2 ?_ ?_|(refine y8 ?_ ?_<;>intro h<;>try exact y6)|refine y3 ?_|refine y7 ?_ ?_|refine y4 ?_|(refine y9 ?_ ?_<;>intro h)|exact y5|fail)
 all_goals try omega
 ·refine⟨?_⟩
  by_cases h10:(p.getD i dN).op=10
  ·obtain⟨k1,k2,k3⟩:=hks h10
   have hok:=hok h10;rw[if_pos h10] at hB2;subst hB2;rw[←k1] at hprs hjn hok
   have hkp:ks.getD 0 0<p.length:=by omega
   generalize parseP (p.getD (ks.getD 0 0) dN).str=pp at*;obtain⟨⟨pr,pq,ps⟩,pok⟩:=pp;simp only at hjn hok;generalize joinP (L.getD i ini).sc ⟨pr,pq,ps⟩=jj at*;obtain⟨⟨jr,ju,js⟩,jok⟩:=jj;simp only at hok;subst hok
   repeat'(first|exact y0|refine y1 ?_|refine y2 ?_ ?_|(refine y8 ?_ ?_<;>intro h<;>try exact y6)|(refine wC ?_;first|refine wF 81 (pu hkc ?_)|refine wF 83 (pu hprs ?_)|refine wF 84 (pu hjn ?_))|refine y3 ?_|refine y7 ?_ ?_|refine y4 ?_|(refine y9 ?_ ?_<;>intro h)|exact y5|fail)
   all_goals try first|omega|exact k2
   all_goals refine CutR.at [0] rfl rfl ⟨VLe.refl _,VLe.refl _,VLe.refl _,VLe.refl _,VLe.refl _,trivial⟩ ⟨rfl,trivial⟩ rfl
  ·rw[if_neg h10] at hB2
   subst hB2
   repeat'(first|exact y0|refine y1 ?_|refine y2 ?_ ?_|(refine y8 ?_ ?_<;>intro h<;>try exact y6)|refine y3 ?_|refine y7 ?_ ?_|refine y4 ?_|(refine y9 ?_ ?_<;>intro h)|exact y5|fail)
   all_goals refine CutR.at [0] rfl rfl ⟨VLe.refl _,VLe.refl _,VLe.refl _,VLe.refl _,VLe.refl _,trivial⟩ ⟨rfl,trivial⟩ rfl
 refine⟨?_⟩;clear hkc hprs hjn hok hks
 repeat'(first|refine Ex.cutC 52 159 1 [(0,nodes p),(1,infV L),(2,nI i),(7,.s (.slc none 0 (some 0))),(8,.s (.ptr (some (0,0))))] [(0,some (abB [false,false,b2,b3,false,false,false,false,false,false,false]))] rfl (Hold.k ?_) (Hold.k ?_)|exact y0|refine y1 ?_|refine y2 ?_ ?_|(refine y8 ?_ ?_<;>intro h<;>try exact y6)|(refine wC ?_;first|refine wF 82 (pu hdc ?_))|refine y3 ?_|refine y7 ?_ ?_|refine y4 ?_|(refine y9 ?_ ?_<;>intro h)|exact y5|fail)
 all_goals try omega
 ·refine⟨?_⟩
  cases hd:declB (p.getD i dN).op
  ·rw[hd,if_neg (by decide)] at hb3
   rw[hd,if_neg (show ¬(false=true) by decide),←hB2] at hb2;subst hb2;subst hb3
   repeat'(first|exact y0|refine y1 ?_|refine y2 ?_ ?_|(refine y8 ?_ ?_<;>intro h<;>try exact y6)|refine y3 ?_|refine y7 ?_ ?_|refine y4 ?_|(refine y9 ?_ ?_<;>intro h)|exact y5|fail)
   all_goals refine CutR.at [0] rfl rfl ⟨VLe.refl _,VLe.refl _,VLe.refl _,VLe.refl _,VLe.refl _,trivial⟩ ⟨rfl,trivial⟩ rfl
  ·have h10: ¬(p.getD i dN).op=10:=fun h=>by rw[hx10 h] at hd;cases hd
   rw[if_neg h10] at hB2 hb2;rw[hd,if_pos rfl] at hb2 hb3;subst hB2
   by_cases hP:P=[]
   ·rw[decide_eq_true hP] at hb2
    rw[decide_eq_false (fun h=>h hP),Bool.false_and] at hb3;subst hb2;subst hb3;have hP':(L.getD i ini).path=[]:=hpt.trans hP
    repeat'(first|exact y0|refine y1 ?_|refine y2 ?_ ?_|(refine y8 ?_ ?_<;>intro h<;>try(first|contradiction|exact y6))|refine y3 ?_|refine y7 ?_ ?_|refine y4 ?_|(refine y9 ?_ ?_<;>intro h)|exact y5|fail)
    all_goals try omega
    all_goals refine CutR.at [0] rfl rfl ⟨VLe.refl _,VLe.refl _,VLe.refl _,VLe.refl _,VLe.refl _,trivial⟩ ⟨rfl,trivial⟩ rfl
   ·rw[decide_eq_false hP] at hb2
    rw[decide_eq_true hP,Bool.true_and] at hb3
    have hP': ¬(L.getD i ini).path=[]:=fun h=>hP (hpt.symm.trans h)
    by_cases hf:fr<(i:Int)
    ·rw[decide_eq_true hf] at hb3
     subst hb2;subst hb3
     repeat'(first|exact y0|refine y1 ?_|refine y2 ?_ ?_|(refine y8 ?_ ?_<;>intro h<;>try(exact y6))|(refine wC ?_;first|refine wF 86 (pu hfi ?_))|refine y3 ?_|refine y7 ?_ ?_|refine y4 ?_|(refine y9 ?_ ?_<;>intro h)|exact y5|fail)
     all_goals try omega
     all_goals refine CutR.at [0] rfl rfl ⟨VLe.refl _,VLe.refl _,VLe.refl _,VLe.refl _,VLe.refl _,trivial⟩ ⟨rfl,trivial⟩ rfl
    ·rw[decide_eq_false hf] at hb3
     subst hb2;subst hb3
     repeat'(first|exact y0|refine y1 ?_|refine y2 ?_ ?_|(refine y8 ?_ ?_<;>intro h<;>try(exact y6))|(refine wC ?_;first|refine wF 86 (pu hfi ?_))|refine y3 ?_|refine y7 ?_ ?_|refine y4 ?_|(refine y9 ?_ ?_<;>intro h)|exact y5|fail)
     all_goals try omega
     all_goals refine CutR.at [0] rfl rfl ⟨VLe.refl _,VLe.refl _,VLe.refl _,VLe.refl _,VLe.refl _,trivial⟩ ⟨rfl,trivial⟩ rfl
 refine⟨?_⟩;clear hb2 hb3 hB2 hdc hfi hx10
 repeat'(first|refine Ex.cutQ 14 159 1 [(0,nodes p),(1,infV L),(2,nI i),(7,.s (.slc none 0 (some 0))),(8,.s (.ptr (some (0,0))))] [(0,some (abB [false,false,b2,b3,!c4,b5,b6,b7,b8,false,false]))] rfl (Hold.k ?_) (Hold.k ?_)|exact y0|refine y1 ?_|refine y2 ?_ ?_|(refine y8 ?_ ?_<;>intro h<;>try exact y6)|(refine wC ?_;first|refine wF 87 (pu hir ?_)|refine wF 88 (pu hto ?_)|refine wF 89 (pu hnr ?_)|refine wF 90 (pu hou ?_))|refine y3 ?_|refine y7 ?_ ?_|refine y4 ?_|(refine y9 ?_ ?_<;>intro h)|exact y5|fail)
 ·refine⟨?_⟩
  clear hir hto hnr hou hun hb9 hbm hnum;by_cases h3:(p.getD i dN).op=34∨(p.getD i dN).op=35
  ·rw[decide_eq_true h3,Bool.true_and] at hlo2
   by_cases hl:(L.getD i ini).lo<0
   ·rw[decide_eq_true hl] at hlo2
    clear hb8;subst hlo2
    repeat'(first|exact y0|refine y1 ?_|refine y2 ?_ ?_|(refine y8 ?_ ?_<;>intro h<;>try exact y6)|refine y3 ?_|refine y7 ?_ ?_|refine y4 ?_|(refine y9 ?_ ?_<;>intro h)|exact y5|fail)
    all_goals try omega
    all_goals refine CutR.at [0] rfl rfl ⟨VLe.refl _,VLe.refl _,VLe.refl _,VLe.refl _,VLe.refl _,trivial⟩ ⟨rfl,trivial⟩ rfl
   ·rw[decide_eq_false hl] at hlo2
    clear hb8;subst hlo2
    repeat'(first|exact y0|refine y1 ?_|refine y2 ?_ ?_|(refine y8 ?_ ?_<;>intro h<;>try exact y6)|refine y3 ?_|refine y7 ?_ ?_|refine y4 ?_|(refine y9 ?_ ?_<;>intro h)|exact y5|fail)
    all_goals try omega
    all_goals refine CutR.at [0] rfl rfl ⟨VLe.refl _,VLe.refl _,VLe.refl _,VLe.refl _,VLe.refl _,trivial⟩ ⟨rfl,trivial⟩ rfl
  ·rw[decide_eq_false h3,Bool.false_and] at hlo2
   clear hb8;subst hlo2
   repeat'(first|exact y0|refine y1 ?_|refine y2 ?_ ?_|(refine y8 ?_ ?_<;>intro h<;>try exact y6)|refine y3 ?_|refine y7 ?_ ?_|refine y4 ?_|(refine y9 ?_ ?_<;>intro h)|exact y5|fail)
   all_goals try omega
   all_goals refine CutR.at [0] rfl rfl ⟨VLe.refl _,VLe.refl _,VLe.refl _,VLe.refl _,VLe.refl _,trivial⟩ ⟨rfl,trivial⟩ rfl
 refine⟨?_⟩;clear hir hto hnr hou hlo2 hb8
 repeat'(first|refine Ex.cutQ 15 159 1 [(0,nodes p),(1,infV L),(2,nI i),(7,.s (.slc none 0 (some 0))),(8,.s (.ptr (some (0,0))))] [(0,some (abB [false,false,b2,b3,!c4,b5,b6,b7,b8,b9,false]))] rfl (Hold.k ?_) (Hold.k ?_)|exact y0|refine y1 ?_|refine y2 ?_ ?_|(refine y8 ?_ ?_<;>intro h<;>try exact y6)|refine y3 ?_|refine y7 ?_ ?_|refine y4 ?_|(refine y9 ?_ ?_<;>intro h)|exact y5|fail)
 ·refine⟨?_⟩
  have hgi:numN p i=(p.getD i dN).int:=rfl;rw[hgi] at hb9;by_cases h7:(p.getD i dN).op=7
  ·obtain⟨M,m1,m2,m3,m4⟩:=hbm (by rw[h7];decide)
   have hnM:FC Tryz.prog 91 [nodes p,nI M,nI (1:Nat)] 0 [] (nU (numN p (M+2))) 0 []:=hnum M (by omega) m3;rw[decide_eq_true h7,Bool.true_and,m2,Int.toNat_natCast] at hb9;clear hun hnum hbm;by_cases h9:numN p (M+2)≤(p.getD i dN).int
   ·rw[decide_eq_true h9] at hb9
    subst hb9
    repeat'(first|refine RegX.eqv 137 (congrArg nI m2) rfl ?_|exact y0|refine y1 ?_|refine y2 ?_ ?_|(refine y8 ?_ ?_<;>intro h<;>try exact y6)|(refine wC ?_;first|refine wF 91 (pu hnM ?_))|refine y3 ?_|refine y7 ?_ ?_|refine y4 ?_|(refine y9 ?_ ?_<;>intro h)|exact y5|fail)
    all_goals try omega
    all_goals refine CutR.at [0] rfl rfl ⟨VLe.refl _,VLe.refl _,VLe.refl _,VLe.refl _,VLe.refl _,trivial⟩ ⟨rfl,trivial⟩ rfl
   ·rw[decide_eq_false h9] at hb9
    subst hb9
    repeat'(first|refine RegX.eqv 137 (congrArg nI m2) rfl ?_|exact y0|refine y1 ?_|refine y2 ?_ ?_|(refine y8 ?_ ?_<;>intro h<;>try exact y6)|(refine wC ?_;first|refine wF 91 (pu hnM ?_))|refine y3 ?_|refine y7 ?_ ?_|refine y4 ?_|(refine y9 ?_ ?_<;>intro h)|exact y5|fail)
    all_goals try omega
    all_goals refine CutR.at [0] rfl rfl ⟨VLe.refl _,VLe.refl _,VLe.refl _,VLe.refl _,VLe.refl _,trivial⟩ ⟨rfl,trivial⟩ rfl
  ·rw[decide_eq_false h7,Bool.false_and] at hb9
   subst hb9;clear hun hnum hbm
   repeat'(first|exact y0|refine y1 ?_|refine y2 ?_ ?_|(refine y8 ?_ ?_<;>intro h<;>try exact y6)|refine y3 ?_|refine y7 ?_ ?_|refine y4 ?_|(refine y9 ?_ ?_<;>intro h)|exact y5|fail)
   all_goals try omega
   all_goals refine CutR.at [0] rfl rfl ⟨VLe.refl _,VLe.refl _,VLe.refl _,VLe.refl _,VLe.refl _,trivial⟩ ⟨rfl,trivial⟩ rfl
 refine⟨?_⟩;clear hb9 hbm hnum
 repeat'(first|exact y0|refine y1 ?_|refine y2 ?_ ?_|(refine y8 ?_ ?_<;>intro h<;>try exact y6)|(refine wC ?_;first|refine wF 92 (pu hun ?_))|refine y3 ?_|refine y7 ?_ ?_|refine y4 ?_|(refine y9 ?_ ?_<;>intro h)|exact y5|fail)
 refine Ex.canon [0] 159 [(7,.s (.slc none 0 (some 0))),(8,.s (.ptr (some (0,0)))),(13,nI (0+1:Nat))] [(0,some (abB [false,false,b2,b3,!c4,b5,b6,b7,b8,b9,b10]))] rfl rfl ⟨VLe.refl _,VLe.refl _,VLe.refl _,trivial⟩ ⟨rfl,trivial⟩ rfl ?_;refine Ex.set 7 (.s (.row 1 2 0)) (VLe.s SLe.nilrow) rfl (Ex.upN (n':=3) (by decide) ?_);refine Ex.inv (σ:=Nat) (fun j=>[(7,.s (.row 1 2 (cdD [false,false,b2,b3,!c4,b5,b6,b7,b8,b9,b10] j).length)),(13,nI (j+1:Nat))]) (fun j=>[(0,some (abB [false,false,b2,b3,!c4,b5,b6,b7,b8,b9,b10])),(1,inB 1 (cdD [false,false,b2,b3,!c4,b5,b6,b7,b8,b9,b10] j))]) (fun j=>j≤10) (fun j=>10-j) 0 rfl (fun _=>rfl) (Nat.zero_le _) ⟨VLe.refl _,VLe.refl _,trivial⟩ ⟨rfl,trivial⟩ ?_;intro j hj;by_cases hj10:j<10
 ·have hDs:=cdD_succ [false,false,b2,b3,!c4,b5,b6,b7,b8,b9,b10] j
  have hDl:=cdD_len [false,false,b2,b3,!c4,b5,b6,b7,b8,b9,b10] j
  have hcat:plus 0 (times (j+1) (Tryz.prog.types[4]).size)=j+1:=by rw[show (Tryz.prog.types[4]).size=1 by kernel_rfl,plus_eq,times_eq];omega
  have hsb:(Tryz.prog.types[4]).size=1:=by kernel_rfl
  generalize cdD [false,false,b2,b3,!c4,b5,b6,b7,b8,b9,b10] j=D at*;cases hb:[false,false,b2,b3,!c4,b5,b6,b7,b8,b9,b10].getD (j+1) false
  ·rw[hb,if_neg (by decide),List.append_nil] at hDs
   repeat'(first|exact y0|refine y1 ?_|refine y2 ?_ ?_|(refine y8 ?_ ?_<;>intro h<;>try exact y6)|refine RegX.chunkN 2 rfl rfl ?_ (RegX.ldS [.ldv (bV false)] rfl rfl ?_ rfl ?_)|refine y3 ?_|refine y7 ?_ ?_|refine y4 ?_|(refine y9 ?_ ?_<;>intro h)|exact y5|fail)
   all_goals try first
    |omega
    |(show ldAt false _ (abB [false,false,b2,b3,!c4,b5,b6,b7,b8,b9,b10]) _=_;rw[hcat,hsb];exact ld_ab (show j+1<11 by omega) hb)
    |(show ldAt false _ (abB [false,false,b2,b3,!c4,b5,b6,b7,b8,b9,b10]) _=_;rw[hcat];exact ld_ab (show j+1<11 by omega) hb)
   refine LoopR.same (j+1) (by omega) (by omega) rfl ⟨VLe.of_eq (by rw[hDs];rfl),VLe.of_eq (congrArg nI (by push_cast;rfl)),trivial⟩ ⟨rfl,SubP.op (by rw[hDs];rfl) trivial⟩ rfl ?_ (by decide)
   unfold inB;generalize List.flatMap _ _=cg;cases cg<;>rfl
  ·rw[hb,if_pos rfl] at hDs
   repeat'(first|exact y0|refine y1 ?_|refine y2 ?_ ?_|(refine y8 ?_ ?_<;>intro h<;>try exact y6)|refine RegX.chunkN 2 rfl rfl ?_ (RegX.ldS [.ldv (bV true)] rfl rfl ?_ rfl ?_)|refine RegX.apr (i:=1) (g:=2) (m:=D.length) (w:=1) (cs:=D.flatMap fun j=>[S.int .i64 ((j:Nat):Int)]) (foot:=[3]) (k:=1) (add:=[S.int .i64 ((j+1:Nat):Int)]) rfl rfl (by rw[in_len];omega) rfl rfl rfl rfl rfl rfl rfl hsz (by decide) rfl ⟨Nat.le_refl _,rfl⟩ (by decide) (by simp) rfl (by rw[hby];omega) (by omega) rfl ?_|refine y3 ?_|refine y7 ?_ ?_|refine y4 ?_|(refine y9 ?_ ?_<;>intro h)|exact y5|fail)
   all_goals try first
    |exact i64_in (by push_cast;omega) (by push_cast;omega)
    |omega
    |(show ldAt false _ (abB [false,false,b2,b3,!c4,b5,b6,b7,b8,b9,b10]) _=_;rw[hcat,hsb];exact ld_ab (show j+1<11 by omega) hb)
    |(show ldAt false _ (abB [false,false,b2,b3,!c4,b5,b6,b7,b8,b9,b10]) _=_;rw[hcat];exact ld_ab (show j+1<11 by omega) hb)
   refine LoopR.move (j+1) (by omega) (by omega) [0,4,5] rfl ?_ ?_ ?_
   ·rw[hDs]
    repeat' (first|exact VLe.refl _|exact VLe.any _|exact True.intro|exact VLe.of_eq (congrArg nI (by push_cast;rfl))|(refine VLe.of_eq (congrArg V.s (?_:S.row 4 5 _=S.row 4 5 _));simp;done)|refine⟨?_,?_⟩)
   ·rw[hDs]
    refine⟨rfl,MemP.op ?_ trivial⟩;rw[List.flatMap_append];rfl
   ·rw[hDs];unfold inB;generalize List.flatMap _ _=cg;cases cg<;>rfl
 ·have hj':j=10:=by omega
  subst hj';generalize hD:cdD [false,false,b2,b3,!c4,b5,b6,b7,b8,b9,b10] 10=D at*;have hD':(List.filter (fun k=>[false,false,b2,b3,!c4,b5,b6,b7,b8,b9,b10].getD k false) (List.range' 1 10))=D:=hD;rw[hD']
  repeat'(first|exact y0|refine y1 ?_|refine y2 ?_ ?_|(refine y8 ?_ ?_<;>intro h<;>try exact y6)|refine Ex.fzR 6 (fun j=>[S.int .i64 ((j:Nat):Int)]) 1 0 D rfl rfl (fun _=>rfl) (fun a j x h=>int_pure h) (by decide) rfl rfl ?_|refine Fin.le (.inl rfl) rfl (VLe.refl _) rfl|refine y3 ?_|refine y7 ?_ ?_|refine y4 ?_|(refine y9 ?_ ?_<;>intro h)|exact y5|fail)
end
set_option maxRecDepth 100000
set_option maxHeartbeats 2000000
section
variable {p:List Nd} {t:Fo}
def refGi (p:List Nd) (t:Fo) (n:Nat):Dgs:=(List.range n).flatMap fun i=>(codesL p t i).map fun c=>(i,c)
theorem refGi_succ (n:Nat):refGi p t (n+1)=refGi p t n++(codesL p t n).map fun c=>(n,c):=by
 unfold refGi;rw[List.range_succ,List.flatMap_append];simp
theorem refGi_len:∀ n:Nat,(refGi p t n).length≤10*n
 |0=>Nat.le_refl _
 |n+1=>by
  have:=refGi_len n;have h:=codesL_len p t n;rw[refGi_succ,List.length_append,List.length_map];omega
def dclS (p:List Nd) (t:Fo) (n:Nat):List Dc:=(List.range n).flatMap (dclE p t)
theorem dclS_succ (n:Nat):dclS p t (n+1)=dclS p t n++dclE p t n:=by
 unfold dclS;rw[List.range_succ,List.flatMap_append];simp
theorem dclS_len:∀ n:Nat,(dclS p t n).length≤n
 |0=>Nat.le_refl _
 |n+1=>by
  have:=dclS_len n
  have h:(dclE p t n).length≤1:=by unfold dclE;split<;>simp
  rw[dclS_succ,List.length_append];omega
theorem chkR_no (p:List Nd) (hw:wfS p) (h:validN p=false):FC Tryz.prog 23 [nodes p] 0 [] (dgsV [(0,1)]) 0 []:=by
 have hv:=validR_all p hw;rw[h] at hv;refine FC.walk (by kernel_rfl) Tryz.func23 rfl rfl ?_
 repeat'(first|exact y0|refine y1 ?_|refine y2 ?_ ?_|(refine y8 ?_ ?_<;>intro h<;>try exact y6)|(refine wC ?_;first|refine wF 20 (pu hv ?_))|refine Ex.fz 2 (fun k=>dgC ([(0,1)].getD k (0,0))) 2 rfl rfl rfl rfl (fun _ _=>rfl) (fun k j x hk hx=>dg_cell hk hx) rfl rfl ?_|refine Fin.le (.inl rfl) rfl (VLe.refl _) rfl|refine y3 ?_|refine y7 ?_ ?_|refine y4 ?_|(refine y9 ?_ ?_<;>intro h)|exact y5|fail)
theorem dclR_no (p:List Nd) (hw:wfS p) (h:validN p=false):FC Tryz.prog 25 [nodes p] 0 [] (dcF []) 0 []:=by
 have hv:=validR_all p hw;rw[h] at hv;refine FC.walk (by kernel_rfl) Tryz.func25 rfl rfl ?_
 repeat'(first|exact y0|refine y1 ?_|refine y2 ?_ ?_|(refine y8 ?_ ?_<;>intro h<;>try exact y6)|(refine wC ?_;first|refine wF 20 (pu hv ?_))|refine Fin.le (.inl rfl) rfl (VLe.s SLe.nil) rfl|refine y3 ?_|refine y7 ?_ ?_|refine y4 ?_|(refine y9 ?_ ?_<;>intro h)|exact y5|fail)
theorem chkR_yes (hp:p.length≤2048) (hw:wfS p) (hI:wfI p) (h:validN p=true) (ha:t.At p 0) (hv:t.V (List.replicate t.cnt (false,68))) (hs:t.size=p.length):
 FC Tryz.prog 23 [nodes p] 0 [] (dgsV (refG p t)) 0 []:=by
 have hsz:(Tryz.prog.types[42]).size=2:=by kernel_rfl
 have hby:(Tryz.prog.types[42]).bytes=16:=by kernel_rfl
 have hvl:=validR_all p hw;rw[h] at hvl;have hin:=infos_c p hp hw t ha hv hs
 have hcd:=fun i (hi:i<t.size)=>codes_c hp hw hI ha hv hs hi
 show FC Tryz.prog 23 [nodes p] 0 [] (dgsV (refGi p t t.size)) 0 [];rw[hs];generalize infL p t=L at*;refine FC.walk (by kernel_rfl) Tryz.func23 rfl rfl ?_
 repeat'(first|exact y0|refine y1 ?_|refine y2 ?_ ?_|(refine y8 ?_ ?_<;>intro h<;>try exact y6)|(refine wC ?_;first|refine wF 20 (pu hvl ?_)|refine wF 51 (pu hin ?_))|refine y3 ?_|refine y7 ?_ ?_|refine y4 ?_|(refine y9 ?_ ?_<;>intro h)|exact y5|fail)
 refine Ex.set 3 (.s (.row 0 1 0)) (VLe.s SLe.nilrow) rfl (Ex.upN (n':=2) (by omega) ?_);refine Ex.inv (σ:=Nat) (fun i=>[(3,.s (.row 0 1 (refGi p t i).length)),(5,nI i)]) (fun i=>[(0,dgB 0 (refGi p t i))]) (fun i=>i≤p.length) (fun i=>p.length-i) 0 rfl (fun _=>rfl) (Nat.zero_le _) ⟨VLe.refl _,VLe.refl _,trivial⟩ trivial ?_;intro i hi;by_cases hlt:i<p.length
 ·have hc:=hcd i (by omega)
  have hl10:=codesL_len p t i;have hsu:=refGi_succ (p:=p) (t:=t) i;have hgl:=refGi_len (p:=p) (t:=t) i;generalize codesL p t i=cs at*;generalize refGi p t i=Gi at*
  repeat'(first|exact y0|refine y1 ?_|refine y2 ?_ ?_|(refine y8 ?_ ?_<;>intro h<;>try exact y6)|(refine wC ?_;first|refine wF 52 (pu hc ?_))|refine y3 ?_|refine y7 ?_ ?_|refine y4 ?_|(refine y9 ?_ ?_<;>intro h)|exact y5|fail)
  refine Ex.inv (σ:=Nat) (fun k=>[(3,.s (.row 0 1 (Gi++(cs.take k).map fun c=>(i,c)).length)),(7,nI k)]) (fun k=>[(0,dgB 0 (Gi++(cs.take k).map fun c=>(i,c)))]) (fun k=>k≤cs.length) (fun k=>cs.length-k) 0 rfl (fun _=>rfl) (Nat.zero_le _) ⟨VLe.of_eq (by simp),VLe.refl _,trivial⟩ (SubP.op (by simp;rfl) trivial) ?_;intro k hk;by_cases hkl:k<cs.length
  ·have hts:(Gi++(cs.take (k+1)).map fun c=>(i,c))=(Gi++(cs.take k).map fun c=>(i,c))++[(i,cs.getD k 0)]:=by
    rw[List.take_add_one,List.getElem?_eq_getElem hkl,List.getD_eq_getElem?_getD,List.getElem?_eq_getElem hkl,List.map_append,List.append_assoc];rfl
   have hgk:(Gi++(cs.take k).map fun c=>(i,c)).length≤10*i+10:=by rw[List.length_append,List.length_map,List.length_take];omega
   generalize hGG:(Gi++(cs.take k).map fun c=>(i,c))=G at*;have hfl:(G.flatMap dgC).length=G.length*2:=flatW (g:=dgC) (w:=2) (fun _=>rfl) G
   repeat'(first|exact y0|refine y1 ?_|refine y2 ?_ ?_|(refine y8 ?_ ?_<;>intro h<;>try exact y6)|refine RegX.apr (i:=0) (g:=1) (m:=G.length) (w:=2) (cs:=G.flatMap dgC) (foot:=[2]) (k:=1) (add:=dgC (i,cs.getD k 0)) rfl rfl hfl rfl rfl rfl rfl rfl rfl rfl hsz (by decide) rfl ⟨Nat.le_refl _,rfl⟩ (by decide) (by simp[dgC]) rfl (by rw[hby];omega) (by omega) rfl ?_|refine y3 ?_|refine y7 ?_ ?_|refine y4 ?_|(refine y9 ?_ ?_<;>intro h)|exact y5|fail)
   all_goals try first
    |exact i64_in (by push_cast;omega) (by push_cast;omega)
    |omega
   refine LoopR.move (k+1) (by omega) (by omega) [3,4] rfl ?_ ?_ ?_
   ·rw[hts]
    repeat' (first|exact VLe.refl _|exact VLe.any _|exact True.intro|exact VLe.of_eq (congrArg nI (by push_cast;rfl))|(refine VLe.of_eq (congrArg V.s (?_:S.row 3 4 _=S.row 3 4 _));simp;done)|refine⟨?_,?_⟩)
   ·rw[hts]
    refine MemP.op ?_ trivial;rw[List.flatMap_append];rfl
   ·rw[hts];unfold dgB;generalize List.flatMap _ _=cg;cases cg<;>rfl
  ·rw[List.take_of_length_le (by omega),←hsu]
   repeat'(first|exact y0|refine y1 ?_|refine y2 ?_ ?_|(refine y8 ?_ ?_<;>intro h<;>try exact y6)|refine y3 ?_|refine y7 ?_ ?_|refine y4 ?_|(refine y9 ?_ ?_<;>intro h)|exact y5|fail)
   refine LoopR.same (i+1) (by omega) (by omega) rfl ⟨VLe.refl _,VLe.of_eq (congrArg nI (by push_cast;rfl)),trivial⟩ (SubP.op rfl trivial) rfl ?_ (by decide)
   unfold dgB;generalize List.flatMap _ _=cg;cases cg<;>rfl
 ·have hi':i=p.length:=by omega
  subst hi';generalize refGi p t p.length=G at*
  repeat'(first|exact y0|refine y1 ?_|refine y2 ?_ ?_|(refine y8 ?_ ?_<;>intro h<;>try exact y6)|refine Ex.fzR 2 dgC 2 (0,0) G rfl rfl (fun _=>rfl) (fun a j x h=>dg_pure h) (by decide) rfl rfl ?_|refine Fin.le (.inl rfl) rfl (VLe.refl _) rfl|refine y3 ?_|refine y7 ?_ ?_|refine y4 ?_|(refine y9 ?_ ?_<;>intro h)|exact y5|fail)
theorem dclR_yes (hp:p.length≤2048) (hw:wfS p) (h:validN p=true) (ha:t.At p 0) (hv:t.V (List.replicate t.cnt (false,68))) (hs:t.size=p.length):
 FC Tryz.prog 25 [nodes p] 0 [] (dcF (dclS p t t.size)) 0 []:=by
 have hsz:(Tryz.prog.types[40]).size=3:=by kernel_rfl
 have hby:(Tryz.prog.types[40]).bytes=32:=by kernel_rfl
 have hvl:=validR_all p hw;rw[h] at hvl;have hin:=infos_c p hp hw t ha hv hs
 have hpt:=fun i (hi:i<t.size)=>path_at (p:=p) hi
 have hLl:(infL p t).length=p.length:=by rw[infL_len,hs]
 rw[hs] at hpt ⊢;generalize infL p t=L at*;refine FC.walk (by kernel_rfl) Tryz.func25 rfl rfl ?_
 repeat'(first|exact y0|refine y1 ?_|refine y2 ?_ ?_|(refine y8 ?_ ?_<;>intro h<;>try exact y6)|(refine wC ?_;first|refine wF 20 (pu hvl ?_)|refine wF 51 (pu hin ?_))|refine y3 ?_|refine y7 ?_ ?_|refine y4 ?_|(refine y9 ?_ ?_<;>intro h)|exact y5|fail)
 refine Ex.set 3 (.s (.row 0 1 0)) (VLe.s SLe.nilrow) rfl (Ex.upN (n':=2) (by omega) ?_);refine Ex.inv (σ:=Nat) (fun i=>[(3,.s (.row 0 1 (dclS p t i).length)),(5,nI i)]) (fun i=>[(0,dcB 0 (dclS p t i))]) (fun i=>i≤p.length) (fun i=>p.length-i) 0 rfl (fun _=>rfl) (Nat.zero_le _) ⟨VLe.refl _,VLe.refl _,trivial⟩ trivial ?_;intro i hi;by_cases hlt:i<p.length
 ·have hsu:=dclS_succ (p:=p) (t:=t) i
  have hgl:=dclS_len (p:=p) (t:=t) i;have hpi:=hpt i hlt;unfold dclE at hsu;rw[←hpi] at hsu
  by_cases he:(L.getD i ini).path=[]
  ·rw[if_pos he,List.append_nil] at hsu
   repeat'(first|exact y0|refine y1 ?_|refine y2 ?_ ?_|(refine y8 ?_ ?_<;>intro h<;>try(exact y6))|refine y3 ?_|refine y7 ?_ ?_|refine y4 ?_|(refine y9 ?_ ?_<;>intro h)|exact y5|fail)
   all_goals try omega
   refine LoopR.same (i+1) (by omega) (by omega) rfl ⟨VLe.of_eq (by rw[hsu];rfl),VLe.of_eq (congrArg nI (by push_cast;rfl)),trivial⟩ (SubP.op (by rw[hsu];rfl) trivial) rfl ?_ (by decide)
   unfold dcB;generalize List.flatMap _ _=cg;cases cg<;>rfl
  ·rw[if_neg he] at hsu
   generalize dclS p t i=D at*;have hfl:(D.flatMap dcC).length=D.length*3:=flatW (g:=dcC) (w:=3) (fun _=>rfl) D
   repeat'(first|exact y0|refine y1 ?_|refine y2 ?_ ?_|(refine y8 ?_ ?_<;>intro h<;>try(exact y6))|refine RegX.apr (i:=0) (g:=1) (m:=D.length) (w:=3) (cs:=D.flatMap dcC) (foot:=[2]) (k:=1) (add:=dcC ⟨(L.getD i ini).path,(p.getD i dN).op,i⟩) rfl rfl hfl rfl rfl rfl rfl rfl rfl rfl hsz (by decide) rfl ⟨Nat.le_refl _,rfl⟩ (by decide) (by simp[dcC]) rfl (by rw[hby];omega) (by omega) rfl ?_|refine y3 ?_|refine y7 ?_ ?_|refine y4 ?_|(refine y9 ?_ ?_<;>intro h)|exact y5|fail)
   all_goals try first
    |exact i64_in (by push_cast;omega) (by push_cast;omega)
    |omega
   refine LoopR.move (i+1) (by omega) (by omega) [3,4] rfl ?_ ?_ ?_
   ·rw[hsu]
    repeat' (first|exact VLe.refl _|exact VLe.any _|exact True.intro|exact VLe.of_eq (congrArg nI (by push_cast;rfl))|(refine VLe.of_eq (congrArg V.s (?_:S.row 3 4 _=S.row 3 4 _));simp;done)|refine⟨?_,?_⟩)
   ·rw[hsu]
    refine MemP.op ?_ trivial;rw[List.flatMap_append];rfl
   ·rw[hsu];unfold dcB;generalize List.flatMap _ _=cg;cases cg<;>rfl
 ·have hi':i=p.length:=by omega
  subst hi';generalize dclS p t p.length=D at*
  repeat'(first|exact y0|refine y1 ?_|refine y2 ?_ ?_|(refine y8 ?_ ?_<;>intro h<;>try exact y6)|refine Ex.fzR 2 dcC 3 dD D rfl rfl (fun _=>rfl) (fun a j x h=>dc_pure h) (by decide) rfl rfl ?_|refine Fin.le (.inl rfl) rfl (VLe.refl _) rfl|refine y3 ?_|refine y7 ?_ ?_|refine y4 ?_|(refine y9 ?_ ?_<;>intro h)|exact y5|fail)
end
set_option maxRecDepth 100000
set_option maxHeartbeats 2000000
theorem agr_c (p:List Nd) (hw:wfS p) (hI:wfI p):FC Tryz.prog 10 [nodes p] 0 [] (bV true) 0 []:=by
 have hwN:wfN p:=fun x hx=>by have:=hw x hx;omega
 have key:∀ (G:Dgs) (D:List Dc),G.length≤1000000000000→D.length≤1000000000000→FC Tryz.prog 16 [nodes p] 0 [] (dgsV G) 0 []→FC Tryz.prog 23 [nodes p] 0 [] (dgsV G) 0 []→FC Tryz.prog 15 [nodes p] 0 [] (dcF D) 0 []→FC Tryz.prog 25 [nodes p] 0 [] (dcF D) 0 []→FC Tryz.prog 10 [nodes p] 0 [] (bV true) 0 []:=by
  intro G D hG hD h1 h2 h3 h4;have e1:=eqD_c G G (D:=.isTrue rfl) hG;rw[show (@decide (G=G) (.isTrue rfl))=true from rfl] at e1;have e2:=eqC_c D D (D:=.isTrue rfl) hD;rw[show (@decide (D=D) (.isTrue rfl))=true from rfl] at e2;refine FC.walk (by kernel_rfl) Tryz.func10 rfl rfl ?_
  repeat'(first|exact y0|refine y1 ?_|refine y2 ?_ ?_|(refine y8 ?_ ?_<;>intro h<;>try exact y6)|(refine wC ?_;first|refine wF 16 (pu h1 ?_)|refine wF 23 (pu h2 ?_)|refine wF 15 (pu h3 ?_)|refine wF 25 (pu h4 ?_)|refine wF 22 (pu e1 ?_)|refine wF 24 (pu e2 ?_))|refine Fin.bool (.inl rfl) rfl ?_|refine y3 ?_|refine y7 ?_ ?_|refine y4 ?_|(refine y9 ?_ ?_<;>intro h)|exact y5|fail)
  all_goals rfl
 cases h:validN p with
 |false=>exact key [(0,1)] [] (by simp) (by simp) (check_no p hwN h) (chkR_no p hw h) (decl_no p hwN h) (dclR_no p hw h)
 |true=>
  obtain⟨hp,t,ha,hv,hd,hs⟩:=valid_forest h;have hck:FC Tryz.prog 16 [nodes p] 0 [] (dgsV (srtD (allG p t))) 0 []:=check_yes p hwN hI h hp t ha hv hs;have hdc:=decl_yes p hwN h hp t ha hv hs;have hl:=allG_len hp ha hv hs;rw[check_same ha hv hs] at hck hl
  have hD:(anS p t).D=dclS p t t.size:=by rw[anS_at ha hv,stAt_D ha (Nat.le_refl _)];rfl
  rw[hD] at hdc;have hdl:=dclS_len (p:=p) (t:=t) t.size;exact key (refG p t) (dclS p t t.size) (by omega) (by omega) hck (chkR_yes hp hw hI h ha hv hs) hdc (dclR_yes hp hw h ha hv hs)
end Go.Proofs.YtphdhedhhlfepaaGreatDoor
