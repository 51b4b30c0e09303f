import Derived.Test.YtegjgpldfgjoiaaGreatDoorCnM34
import Derived.Test.YtegjgpldfgjoiaaGreatDoorCnM22
set_option linter.all false
namespace Go.Proofs.YtegjgpldfgjoiaaGreatDoor
open Go Ab
set_option maxRecDepth 100000
set_option maxHeartbeats 40000000
section
variable {p:List Nd} {t:Fo} {cs:List (Bool×Int)}
def pC (p:List Nd) (i:Nat):Bool:=decide ((p.getD i dN).op=50\/(p.getD i dN).op=51)&&decide (ai p (i+1)<(p.getD (i+2) dN).kids)
theorem Fh (ha:t.At p 0) (hv:t.V cs) {i:Nat} (hi:i<t.size):0<=(p.getD i dN).kids/\(p.getD i dN).kids<=t.size:=by
 obtain⟨sl,h1,h2⟩:=cC ha hv (Z08 i) (aa:i<0+t.size);have h3:=bm (t:=t) (Z08 i) aa;have h4:=Fo.cnt_le (t.kid 0 i);have:=h1.2.1;omega
theorem IZ (hp:p.length<=2048) (ha:t.At p 0) (hv:t.V cs) (hs:t.size=p.length) {i:Nat} (hi:i<t.size):FC Tryz.prog 109 [al p,nI i] 0 [] (bV (pC p i)) 0 []:=by
 unfold pC;by_cases hop:(p.getD i dN).op=50\/(p.getD i dN).op=51
 ·rw[decide_eq_true hop,Z1r]
  have hl:∀ k,k<2->k<qd (p.getD i dN).op:=λk hk=>by rcases hop with e|e<;>rw[e]<;>exact hk
  have n0:=oh hp ha hv hs hi 0 (hl 0 ac);rw[Z0p] at n0;have hk1:=eh hp ha hv hs hi;obtain⟨l1,l2,l3⟩:=jg ha hv hi (hl 1 ac);have hkb:=Fh ha hv l3;rw[<-l1] at hkb;rw[show i+2=i+1+1 from rfl,<-l1];have hkp:((t.kid 0 i).starts (i+1)).getD 1 0<p.length:=aa;generalize (t.kid 0 i).starts (i+1)=ks at*;clear hl;refine wW Tryz.func109 ?_
  repeat'(first|exact y0|refine y1 ?_|refine y2 ?_ ?_|refine y4 λh=>?_|refine wX 105 (pu hk1 ?_)|refine wX 112 (pu n0 ?_)|refine Fin.bool (.inl rfl) rfl ?_|refine y3 ?_|exact y5|fail)
  all_goals try first
   |exact l2
   |exact hkp
   |exact (decide_eq_true (by assumption)).symm
   |exact (decide_eq_false (by assumption)).symm
  all_goals exact aj hkb.1 (Int.lt_of_le_of_lt hkb.2 aa)
 ·rw[decide_eq_false hop,Z2c]
  refine wW Tryz.func109 ?_
  repeat'(first|exact y0|refine y1 ?_|refine y2 ?_ ?_|refine y4 λh=>?_|refine Fin.bool (.inl rfl) rfl ?_|refine y3 ?_|exact y5|fail)
  all_goals rfl
def jx (L:List Inf):List Pth->Int
 |[]=> -1
 |c::l=>if 0<=di L (aI c) then di L (aI c) else jx L l
theorem qo (s:By):∀ (l:List Inf) (i:Nat),ep s l i= -1\/(i:Int)<=ep s l i/\ep s l i<(i:Int)+l.length
 |[],i=> .inl rfl
 |x::l,i=>by
  simp only[ep];split
  ·right;simp only[Z04];omega
  ·rcases qo s l (i+1) with h|h
   ·exact .inl h
   ·right;simp only[Z04];omega
theorem xP (L:List Inf):∀ l:List Pth,jx L l= -1\/∃ k:Nat,jx L l=(k:Int)/\k<L.length
 |[]=> .inl rfl
 |c::l=>by
  simp only[jx];split
  ·rename_i h
   rcases qo (aI c) L 0 with h1|h1
   ·unfold di at h;omega
   ·right
    refine⟨(di L (aI c)).toNat,aa,?_⟩;unfold di at h |-;omega
  ·exact xP L l
theorem l7 {bs:List By} {s0:By}:∀ {k:Nat} {c:Pth},k<=bs.length->c∈cJ bs s0 k->c.root=true/\c.up=0/\(∀ x∈c.segs,x∈bs\/x=s0)
 |0,c,_,h=>by
  simp only[cJ,Z0m] at h;subst h;exact⟨rfl,rfl,λx hx=> .inr (by simpa using hx)⟩
 |k+1,c,hk,h=>by
  simp only[cJ] at h;split at h
  ·exact l7 aa h
  ·rcases Z0h.1 h with rfl|h
   ·refine⟨rfl,rfl,λx hx=>?_⟩
    rcases Z0w.1 hx with h|h
    ·exact .inl (Z2x h)
    ·exact .inr (by simpa using h)
   ·exact l7 aa h
theorem nP {b r:Pth} {c:Pth} (h:c∈aL b r):cR c.segs:=by
 unfold aL at h;split at h
 ·cases h
 ·rename_i h1
  have hb:bz b=true:=by cases hq:bz b<;>simp_all
  have hr:ay r=true:=by cases hq:ay r<;>simp_all
  split at h
  ·split at h
   ·rw[Z0m] at h
    subst h;rename_i h2;exact dr (xg h2)
   ·cases h
  ·rename_i h3
   obtain⟨_,_,hm⟩:=l7 (Z02 _) h
   have key:∀ x∈c.segs,x.length<=4:=λx hx=>by
    rcases hm x hx with h|h
    ·unfold bz at hb
     simp only[Z07] at hb;exact (ek (Z0i.1 (aJ hb.2).2.2.2.2.1 x h)).2
    ·have h5:=(aJ hr).2.2.2.2.1
     have hl:r.segs.length=1:=aa
     match hq:r.segs,hl with
     |[a],_=>
      rw[hq] at h5;rw[hq] at h;simp at h;subst h;exact (ek (by simpa using h5)).2
   intro i hi;have:=key (c.segs.getD i []) (by rw[Z00,Z01 hi];exact Z0s _);omega
theorem Hw (L:List Inf) (hl:L.length<=2048) (sc:Pth) (h1:cR sc.segs) (s:By) (hsl:s.length<=4398046511104):FC Tryz.prog 171 [lL L,gw sc,sV s] 0 [] (nI (jx L (aL sc (ah s).1))) 0 []:=by
 have hpr:=dU s hsl;have hcd:=yE sc (ah s).1 h1 (de s)
 have hso:=λc=> @nP sc (ah s).1 c
 have hlen:(aL sc (ah s).1).length<=2000000000:=by
  unfold aL;split
  ·simp
  ·rename_i h
   split
   ·split<;>simp
   ·have:=fv sc.segs ((ah s).1.segs.headD []) sc.segs.length
    have hb:bz sc=true:=by cases hq:bz sc<;>simp_all
    have:=(cH hb).2.2;omega
 generalize aL sc (ah s).1=C at*;generalize ah s=pp at*;obtain⟨⟨pr,pq,ps⟩,pok⟩:=pp;obtain⟨cr,cu,cg⟩:=sc;generalize hR:jx L C=R;refine wW Tryz.func171 ?_
 repeat'(first|exact y0|refine y1 ?_|refine y2 ?_ ?_|refine y4 λh=>?_|refine wX 51 (pu hpr ?_)|refine wX 52 (pu hcd ?_)|refine y3 ?_|exact y5|fail)
 refine Ex.inv (σ:=Nat) (λj=>[(10,nI j)]) (λ_=>[]) (λj=>j<=C.length/\jx L (C.drop j)=R) (λj=>C.length-j) 0 rfl (λ_=>rfl) ⟨Z08 _,hR⟩ aV trivial ?_;rintro j ⟨hj,hI⟩;by_cases h:j<C.length
 ·have hd:C.drop j=C.getD j z0::C.drop (j+1):=by
   rw[Z0k h,Z00,Z01 h];rfl
  rw[hd] at hI
  have hmem:C.getD j z0∈C:=by rw[Z00,Z01 h];exact Z0s _
  have hf:=jQ (C.getD j z0) (hso _ hmem);have hfi:=uN L hl (aI (C.getD j z0));simp only[jx] at hI;by_cases ho:0<=di L (aI (C.getD j z0))
  ·rw[if_pos ho] at hI
   repeat'(first|exact y0|refine y1 ?_|refine y2 ?_ ?_|refine y4 λh=>?_|refine wX 54 (pu hf ?_)|refine wX 107 (pu hfi ?_)|refine Fin.int (.inl rfl) rfl ?_|refine y3 ?_|exact y5|fail)
   all_goals exact hI
  ·rw[if_neg ho] at hI
   repeat'(first|exact y0|refine y1 ?_|refine y2 ?_ ?_|refine y4 λh=>?_|refine wX 54 (pu hf ?_)|refine wX 107 (pu hfi ?_)|refine y3 ?_|exact y5|fail)
   refine LoopR.same (j+1) ⟨aa,hI⟩ aa rfl ⟨VLe.of_eq (congrArg nI (by push_cast;rfl)),trivial⟩ trivial rfl rfl ac
 ·rw[Z10 aa] at hI
  simp only[jx] at hI
  repeat'(first|exact y0|refine y1 ?_|refine y2 ?_ ?_|refine y4 λh=>?_|refine Fin.int (.inl rfl) rfl ?_|refine y3 ?_|exact y5|fail)
  all_goals exact hI
end
end Go.Proofs.YtegjgpldfgjoiaaGreatDoor
