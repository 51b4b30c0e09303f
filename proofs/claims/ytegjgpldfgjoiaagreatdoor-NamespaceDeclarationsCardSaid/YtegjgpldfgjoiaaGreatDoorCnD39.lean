import Derived.Test.YtegjgpldfgjoiaaGreatDoorCnD38
import Derived.Test.YtegjgpldfgjoiaaGreatDoorCnD27
import Derived.Test.YtegjgpldfgjoiaaGreatDoorCnD37
import Derived.Test.YtegjgpldfgjoiaaGreatDoorCnD35
set_option linter.all false
set_option maxHeartbeats 40000000
set_option maxRecDepth 100000
namespace Go.Proofs.YtegjgpldfgjoiaaGreatDoor
open Go Ab
section
variable {p:List Nd} {t:Fo} {cs:List (Bool×Int)}
def oE (p:List Nd) (i:Nat):Bool:=decide ((p.getD i dN).op=50\/(p.getD i dN).op=51)&&decide (ai p (i+1)<(p.getD (i+2) dN).kids)
theorem Dm (ha:t.At p 0) (hv:t.V cs) {i:Nat} (hi:i<t.size):0<=(p.getD i dN).kids/\(p.getD i dN).kids<=t.size:=by
 obtain⟨sl,h1,h2⟩:=cn ha hv (Z08 i) (aa:i<0+t.size);have h3:=bC (t:=t) (Z08 i) aa;have h4:=Fo.cnt_le (t.kid 0 i);have:=h1.2.1;omega
theorem Hc (hp:p.length<=2048) (ha:t.At p 0) (hv:t.V cs) (hs:t.size=p.length) {i:Nat} (hi:i<t.size):FQ 109 [ao p,nI i] 0 [] (bV (oE p i)) 0 []:=by
 unfold oE;by_cases hop:(p.getD i dN).op=50\/(p.getD i dN).op=51
 ·rw[decide_eq_true hop,Z1r]
  have hl:∀ k,k<2->k<o9 (p.getD i dN).op:=λk hk=>by rcases hop with e|e<;>rw[e]<;>exact hk
  have n0:=m8 hp ha hv hs hi 0 (hl 0 ac);rw[Z0p] at n0;have hk1:=fJ hp ha hv hs hi;obtain⟨l1,l2,l3⟩:=iW ha hv hi (hl 1 ac);have hkb:=Dm ha hv l3;rw[<-l1] at hkb;rw[show i+2=i+1+1 from rfl,<-l1];have hkp:((t.kid 0 i).starts (i+1)).getD 1 0<p.length:=aa;generalize (t.kid 0 i).starts (i+1)=ks at*;clear hl;refine wW Tryz.func109 ?_
  repeat'(first|refine y1 ?_|refine y2 ?_ ?_|refine y4 λh=>?_|refine an hk1 ?_|refine an n0 ?_|refine cJ (.inl rfl) rfl ?_|refine y3 ?_|exact y5|fail)
  all_goals try first
   |exact (decide_eq_true ae).symm
   |exact (decide_eq_false ae).symm
  all_goals exact al hkb.1 (Int.lt_of_le_of_lt hkb.2 aa)
 ·rw[decide_eq_false hop,Z2c]
  refine wW Tryz.func109 ?_
  repeat'(first|refine y1 ?_|refine y2 ?_ ?_|refine y4 λh=>?_|refine cJ (.inl rfl) rfl ?_|refine y3 ?_|exact y5|fail)
def jc (L:List Inf):List Pth->Int
 |[]=> -1
 |c::l=>if 0<=dd L (aH c) then dd L (aH c) else jc L l
theorem pk (s:By):∀ (l:List Inf) (i:Nat),d8 s l i= -1\/(i:Int)<=d8 s l i/\d8 s l i<(i:Int)+l.length
 |[],i=> .inl rfl
 |x::l,i=>by
  simp only[d8];split
  ·grind
  ·rcases pk s l (i+1) with h|h
   all_goals grind
theorem vT (L:List Inf):∀ l:List Pth,jc L l= -1\/∃ k:Nat,jc L l=(k:Int)/\k<L.length
 |[]=> .inl rfl
 |c::l=>by
  simp only[jc];split
  ·rename_i h
   rcases pk (aH c) L 0 with h1|h1
   ·unfold dd at h;omega
   ·right
    refine⟨(dd L (aH c)).toNat,aa,?_⟩;unfold dd at h |-;omega
  ·exact vT L l
theorem lF {bs:List By} {s0:By}:∀ {k:Nat} {c:Pth},k<=bs.length->c∈cC bs s0 k->c.root=true/\c.up=0/\(∀ x∈c.segs,x∈bs\/x=s0)
 |0,c,_,h=>by
  grind [cC]
 |k+1,c,hk,h=>by
  simp only[cC] at h;split at h
  ·exact lF aa h
  ·rcases Z0h.1 h with rfl|h
   ·grind
   ·exact lF aa h
theorem ug {b r:Pth} {c:Pth} (h:c∈aU b r):dW c.segs:=by
 unfold aU at h;split at h
 ·cases h
 ·rename_i h1
  have hb:bz b=true:=ae;have hr:aA r=true:=ae;split at h
  ·split at h
   ·rw[Z0m] at h
    subst h;rename_i h2;exact fS (vo h2)
   ·cases h
  ·rename_i h3
   obtain⟨_,_,hm⟩:=lF (Z02 _) h
   have key:∀ x∈c.segs,x.length<=4:=λx hx=>by
    rcases hm x hx with h|h
    ·unfold bz at hb
     simp only[Z07] at hb;exact (dG (Z0i.1 (aG hb.2).2.2.2.2.1 x h)).2
    ·have h5:=(aG hr).2.2.2.2.1
     have hl:r.segs.length=1:=aa
     match hq:r.segs,hl with
     |[a],_=>
      rw[hq] at h5;rw[hq] at h;simp at h;subst h;exact (dG ae).2
   intro i hi
   grind
theorem Fz (L:List Inf) (hl:L.length<=2048) (sc:Pth) (h1:dW sc.segs) (s:By) (hsl:s.length<=4398046511104):FQ 171 [lh L,jh sc,sV s] 0 [] (nI (jc L (aU sc (ak s).1))) 0 []:=by
 have hpr:=io s hsl;have hcd:=D2 sc (ak s).1 h1 (ii s)
 have hso:=λc=> @ug sc (ak s).1 c
 have hlen:(aU sc (ak s).1).length<=2000000000:=by
  unfold aU;split
  ·simp
  ·rename_i h
   split
   ·grind
   ·have:=gm sc.segs ((ak s).1.segs.headD []) sc.segs.length
    have hb:bz sc=true:=ae;have:=(cy hb).2.2;omega
 generalize aU sc (ak s).1=C at*;generalize ak s=pp at*;obtain⟨⟨pr,pq,ps⟩,pok⟩:=pp;obtain⟨cr,cu,cg⟩:=sc;generalize hR:jc L C=R;refine wW Tryz.func171 ?_
 repeat'(first|refine yA ?_|refine y2 ?_ ?_|refine an hpr ?_|refine an hcd ?_|exact y5|fail)
 refine cD (σ:=Nat) (λj=>[(10,nI j)]) (λ_=>[]) (λj=>j<=C.length/\jc L (C.drop j)=R) (λj=>C.length-j) 0 rfl (λ_=>rfl) ⟨Z08 _,hR⟩ bc trivial ?_;rintro j ⟨hj,hI⟩;by_cases h:j<C.length
 ·have hd:C.drop j=C.getD j z0::C.drop (j+1):=by
   rw[Z0k h,Z00,Z01 h];rfl
  rw[hd] at hI;have hmem:C.getD j z0∈C:=ae;have hf:=uR (C.getD j z0) (hso _ hmem);have hfi:=sZ L hl (aH (C.getD j z0));simp only[jc] at hI;by_cases ho:0<=dd L (aH (C.getD j z0))
  ·rw[if_pos ho] at hI
   repeat'(first|refine y1 ?_|refine y2 ?_ ?_|refine y4 λh=>?_|refine an hf ?_|refine an hfi ?_|refine jE (.inl rfl) rfl ?_|refine y3 ?_|exact y5|fail)
  ·rw[if_neg ho] at hI
   repeat'(first|refine yA ?_|refine y2 ?_ ?_|refine y4 λh=>?_|refine an hf ?_|refine an hfi ?_|exact y5|fail)
   refine dT (j+1) ⟨aa,hI⟩ aa rfl ⟨bp (congrArg nI ae),trivial⟩ trivial rfl rfl ac
 ·rw[Z10 aa] at hI
  simp only[jc] at hI
  repeat'(first|refine y1 ?_|refine y2 ?_ ?_|refine y4 λh=>?_|refine jE (.inl rfl) rfl ?_|refine y3 ?_|exact y5|fail)
end
def iJ (op:Int):Bool:=decide (op=10\/(11<=op/\op<=15)\/op=18\/op=20\/op=21)
abbrev tm (p:List Nd) (i:Nat) (sc:Pth):Pth:=(au sc (ak (p.getD (i+1) dN).str).1).1
def th (p:List Nd) (num:Int) (O:List Ro) (nx:Int) (i:Nat) (sc:Pth):List Ro×Int×Int:=
 if iJ (p.getD i dN).op=false then (O,nx,0)
 else if (p.getD i dN).op=10 then (if tq O (BX (aH (tm p i sc)) O)=false then (O,nx,6) else (O,nx,0))
 else if 0<=BX (aH (tm p i sc)) O then (O,nx,7)
 else if tq O (BX (aH (aW (tm p i sc)).1) O)=false then (O,nx,6)
 else if (O.length:Int)≥1024 then (O,nx,8)
 else (O++[(nx,dU (aH (tm p i sc)) (p.getD i dN).op (BX (aH (aW (tm p i sc)).1) O) num i)],nx+1,0)
