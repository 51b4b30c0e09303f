import Derived.Test.YtegjgpldfgjoiaaGreatDoorCnJ19
set_option linter.all false
set_option maxHeartbeats 40000000
set_option maxRecDepth 100000
namespace Go.Proofs.YtegjgpldfgjoiaaGreatDoor
open Go Ab
section
variable {s:By} {i k:Nat}
abbrev Ld (g:Nat) (D:List By):Option Bl:=fq 9 (g+1) 1 (D.map S.str)
theorem lu {D:List By} {j:Nat} {x:S} (hk:k<D.length) (h:([S.str (D.getD k [])])[j]? =some x):(D.map S.str)[k*1+j]? =some x/\bL x=true:=by
 cases j with
 |succ j=>simp at h
 |zero=>
  simp only[Z11,Z06] at h;subst h;rw[Z1p,Z0p,Z0t,Z01 hk,Z00,Z01 hk];exact⟨rfl,rfl⟩
theorem iX:s.drop i=[]↔s.length<=i:=aq
theorem GG (h:i<s.length) (hc:s.getD i 0=94):cU (s.drop i)=((cU (s.drop (i+1))).1+1,(cU (s.drop (i+1))).2):=by
 rw[Z0k h]
 grind [cU]
theorem Bq (hc:∀ _:i<s.length,s.getD i 0≠94):cU (s.drop i)=(0,s.drop i):=by
 rcases Z0a i s.length with h|h
 ·rw[Z0k h]
  grind [cU]
 ·rw[Z10 h];rfl
theorem B5 {j:Nat}:(s.drop i).getD j 0=s.getD (i+j) 0:=ae
theorem Ie {c:UInt8} {n:Nat} (hn:n<256) (h: ¬(c.toNat:Int)=(n:Int)):c≠UInt8.ofNat n:=λe=>h (by rw[e];simp;omega)
theorem um {c:UInt8} {n:Nat} (h:(c.toNat:Int)=(n:Int)):c=UInt8.ofNat n:=by
 have h:c.toNat=n:=aa;rw[<-h];simp
theorem vk (hik:i<=k) (hk:k=s.length) (h:∀ j,i<=j->j<k->s.getD j 0≠46):aL 46 (s.drop i)=[(s.take k).drop i]:=by
 grind [mG]
theorem vl (hik:i<=k) (hk:k<s.length) (h:∀ j,i<=j->j<k->s.getD j 0≠46) (hc:s.getD k 0=46):aL 46 (s.drop i)=(s.take k).drop i::aL 46 (s.drop (k+1)):=by
 rw[rD (m:=k-i) ae (λj hj=>by rw[B5];exact h _ aa aa) ae];rw[Z5c,show i+(k-i+1)=k+1 by omega];congr 1;rw[List.drop_take]
def PI (s:By) (st:Nat) (x:List By×Nat):Prop:=
 (x.2<s.length/\st<=x.2/\(st<x.2->((s.getD (x.2-1) 0).toNat:Int)=46)/\x.1.all a_=true/\aL 46 (s.drop st)=x.1++aL 46 (s.drop x.2)/\x.1.length<=x.2)\/
 (s.length<=x.2/\x.2<=s.length+1/\x.1.length<=s.length+1/\((s.drop st=[]/\x.1=[])\/(s.drop st≠[]/\x.1.all a_=true/\aL 46 (s.drop st)=x.1)))
section
variable {P:Program} {b:Nat} {env:List V} {n:Nat} {R:Post} {c:Code}
theorem Ex.segF {b0:Option Bl} {x y:S} {ty:Nat} {D:List By} (k:Ex P b c env n [(0,b0),(1,some {cells:=[x,y,bc D],ty:=ty})] R):Ex P b c env n [(0,b0),(1,some {cells:=[x,y,.row 2 3 D.length],ty:=ty}),(2,Ld 2 D)] R:=by
 cases D with
 |nil=>
  refine Ex.subF ?_ k;refine SubF.one 1 (bl:={cells:=[x,y,.row 2 3 0],ty:=ty}) (bl':={cells:=[x,y,bc []],ty:=ty}) rfl (λj=>?_) rfl (λφ w b h=>BlAt.cells (bl:={cells:=[x,y,.row 2 3 0],ty:=ty}) (cs:=[x,y,bc []]) ⟨SLe.refl _,SLe.refl _,SLe.row0,trivial⟩ h)
  rcases j with _|_|_|j<;>rfl
 |cons d l=>
  refine Ex.fzC 1 2 (λk=>[.str ((d::l).getD k [])]) 1 (s:=.row 2 3 (d::l).length) (i:=2) (N:=(d::l).length) (bl:={cells:=(d::l).map S.str,ty:=9,more:=true,sym:=true,flat:=true,gh:=some (3,1)}) (blj:={cells:=[x,y,.row 2 3 (d::l).length],ty:=ty}) rfl ac rfl rfl rfl rfl rfl (λ_ _=>rfl) (λk j x hk hx=>lu hk hx) rfl ?_;refine Ex.subF (λj bl h=>⟨bl,?_,rfl,λ_ _ _ h=>h⟩) k
  rcases j with _|_|_|j
  ·exact h
  ·exact h
  ·cases h
  ·cases h
end
theorem x_ (s:By):∃ (root:Bool) (U ST:Nat),ai s=eP root U (s.drop ST)/\ST<=s.length/\(root=true->U=0/\ST=1/\s≠[]/\((s.getD 0 0).toNat:Int)=92)/\(root=false->ST=U/\cU s=(U,s.drop U)/\(0<s.length-> ¬((s.getD 0 0).toNat:Int)=92)):=by
 rcases Jd s with ⟨e1,e2⟩|⟨e1,e2⟩
 ·refine⟨true,0,1,by unfold ai;rw[e1];rfl,?_,λ_=>⟨rfl,rfl,λe=>by grind,by rw[e2];rfl⟩,λh=>by cases h⟩
  rw[e2];simp
 ·have h1:=sJ s
  have h2:=uW s
  have h3:cU s=((cU s).1,s.drop (cU s).1):=by
   grind
  refine⟨false,(cU s).1,(cU s).1,?_,h2.1,(λh=>(by cases h)),λ_=>⟨rfl,h3,λhp e=>?_⟩⟩
  ·grind [ai]
  ·cases s with
   |nil=>simp at hp
   |cons b l=>exact e2 (by simpa using um (n:=92) e)
theorem eG (s:By) (hl:s.length<=4398046511104):FQ 51 [sV s] 0 [] (x6 (ai s)) 0 []:=by
 obtain⟨root,U,ST,hpar,hST,hr1,hr2⟩:=x_ s;refine wW Tryz.func51 ?_;refine Ex.seq ?_;refine Ex.reg hm ?_;refine RegX.chunk rfl ?_ ?_
 ·repeat'(first|exact Z0o|refine And.intro ?_ ?_)
 refine RegX.nilF ?_;refine Then.normal ?_;refine Ex.seq ?_;refine Ex.reg hm ?_;refine RegX.chunk rfl ?_ ?_
 ·repeat'(first|exact Z0o|refine And.intro ?_ ?_)
 refine RegX.nilF ?_;refine Then.normal ?_;refine Ex.seq ?_;refine Ex.reg hm ?_;refine RegX.chunk rfl ?_ ?_
 ·repeat'(first|exact Z0o|refine And.intro ?_ ?_)
 refine RegX.nilF ?_;refine Then.normal ?_;refine Ex.seq ?_;refine Ex.cutS 3 99 2 [(0,sV s),(2,.s (.ptr (some (0,0)))),(4,.s (.ptr (some (1,0)))),(5,nI (if root then 1 else 0))] [(0,some {cells:=[.bool false,.int .i64 0,.slc none 0 (some 0)],ty:=99}),(1,some {cells:=[.bool root,.int .i64 0,.slc none 0 (some 0)],ty:=99})] rfl ?_ ?_
 ·cases root
  ·obtain⟨rfl,hups,h0⟩:=hr2 rfl
   by_cases hne:s=[]
   ·
    repeat'(first|((with_reducible refine BrG.neS (λh=>?_) (λh=>?_))<;>try (exact absurd hne h))|refine y1 ?_|refine y2 ?_ ?_|refine y3 ?_|exact y5|fail)
    refine fH [0,1] rfl rfl ⟨ah _,ah _,ah _,ah _,trivial⟩ ⟨rfl,rfl,trivial⟩ rfl
   ·have h0:=h0 (Z1s.2 hne)
    have hpos:=Z1s.2 hne
    repeat'(first|((with_reducible refine BrG.neS (λh=>?_) (λh=>?_))<;>try (exact absurd h hne))|refine y1 ?_|refine y2 ?_ ?_|refine y4 λh=>?_|refine y3 ?_|exact y5|fail)
    refine fH [0,1] rfl rfl ⟨ah _,ah _,ah _,ah _,trivial⟩ ⟨rfl,rfl,trivial⟩ rfl
  ·obtain⟨rfl,rfl,hne,h0⟩:=hr1 rfl
   have hpos:=Z1s.2 hne
   repeat'(first|((with_reducible refine BrG.neS (λh=>?_) (λh=>?_))<;>try (exact absurd h hne))|refine y1 ?_|refine y2 ?_ ?_|refine y4 λh=>?_|refine y3 ?_|exact y5|fail)
   refine fH [0,1] rfl rfl ⟨ah _,ah _,ah _,ah _,trivial⟩ ⟨rfl,rfl,trivial⟩ rfl
 refine Ex.seq ?_;refine Ex.cutB 0 99 2 [(0,sV s),(2,.s (.ptr (some (0,0)))),(4,.s (.ptr (some (1,0)))),(5,nI ST)] [(0,some {cells:=[.bool false,.int .i64 0,.slc none 0 (some 0)],ty:=99}),(1,some {cells:=[.bool root,.int .i64 (U:Int),.slc none 0 (some 0)],ty:=99})] rfl ?_ ?_
 ·cases root
  ·obtain⟨rfl,hups,h0⟩:=hr2 rfl
   repeat'(first|refine yA ?_|fail)
   refine cy (σ:=Nat) (λu=>[(5,nI u)]) (λu=>[(0,some {cells:=[.bool false,.int .i64 0,.slc none 0 (some 0)],ty:=99}),(1,some {cells:=[.bool false,.int .i64 (u:Int),.slc none 0 (some 0)],ty:=99})]) (λu=>u<=s.length/\cU s=(u+(cU (s.drop u)).1,(cU (s.drop u)).2)) (λu=>s.length-u) 0 rfl (λ_=>rfl) ⟨Z08 _,aq⟩ aP ⟨rfl,rfl,trivial⟩ ?_;rintro u ⟨hu,hup⟩;by_cases hgo:u<s.length/\((s.getD u 0).toNat:Int)=94
   ·obtain⟨hg1,hg2⟩:=hgo
    rw[GG hg1 (um (n:=94) hg2)] at hup
    repeat'(first|refine yA ?_|refine y2 ?_ ?_|refine y4 λh=>?_|exact y5|fail)
    refine dz (u+1) ⟨aa,?_⟩ aa rfl aP ⟨rfl,rfl,trivial⟩ rfl rfl ac;rw[hup];congr 1;omega
   ·rw[Bq (λh=>λe=>hgo ⟨h,by rw[e];rfl⟩)] at hup
    rw[hups] at hup
    obtain rfl:ST=u:=by have:=congrArg Prod.fst hup;simpa using this
    rcases Z0a ST s.length with h|h
    all_goals
     repeat'(first|refine yA ?_|refine y2 ?_ ?_|refine y4 λh=>?_|exact y5|fail)
     refine fH [0,1] rfl rfl ⟨ah _,ah _,ah _,ah _,trivial⟩ ⟨rfl,rfl,trivial⟩ rfl
  ·obtain⟨rfl,rfl,hne,h0⟩:=hr1 rfl
   repeat'(first|refine yA ?_|fail)
   refine cy (σ:=Unit) (λ_=>[(5,nI 1)]) (λ_=>[(0,some {cells:=[.bool false,.int .i64 0,.slc none 0 (some 0)],ty:=99}),(1,some {cells:=[.bool true,.int .i64 0,.slc none 0 (some 0)],ty:=99})]) (λ_=>True) (λ_=>0) () rfl (λ_=>rfl) trivial aP ⟨rfl,rfl,trivial⟩ ?_;rintro _ _
   repeat'(first|refine yA ?_|refine y2 ?_ ?_|exact y5|fail)
   refine fH [0,1] rfl rfl ⟨ah _,ah _,ah _,ah _,trivial⟩ ⟨rfl,rfl,trivial⟩ rfl
 ·have hU:root=true->U=0:=λh=>(hr1 h).1
  have hU2:U<=s.length:=by cases root with
   |true=>rw[hU rfl];exact Z08 _
   |false=>rw[<-(hr2 rfl).1];exact hST
  clear hr1 hr2;have hsz:(Tryz.prog.types[9]).size=1:=aK;have hby:(Tryz.prog.types[9]).bytes=16:=aK
  repeat'(first|refine yA ?_|refine y2 ?_ ?_|exact y5|fail)
  refine Ex.subF (L':=[(0,some {cells:=[.bool false,.int .i64 0,.slc none 0 (some 0)],ty:=99}),(1,some {cells:=[.bool root,.int .i64 (U:Int),.row 2 3 0],ty:=99})]) ?_ (Ex.upN (n':=4) aa ?_)
  ·refine SubF.one 1 (bl:={cells:=[.bool root,.int .i64 (U:Int),.slc none 0 (some 0)],ty:=99}) (bl':={cells:=[.bool root,.int .i64 (U:Int),.row 2 3 0],ty:=99}) rfl (λj=>?_) rfl (λφ w b h=>BlAt.cells (bl:={cells:=[.bool root,.int .i64 (U:Int),.slc none 0 (some 0)],ty:=99}) (cs:=[.bool root,.int .i64 (U:Int),.row 2 3 0]) ⟨SLe.refl _,SLe.refl _,SLe.nilrow,trivial⟩ h)
   rcases j with _|_|j<;>rfl
  refine cy (σ:=List By×Nat) (λx=>[(5,nI x.2)]) (λx=>[(0,some {cells:=[.bool false,.int .i64 0,.slc none 0 (some 0)],ty:=99}),(1,some {cells:=[.bool root,.int .i64 (U:Int),.row 2 3 (x.1).length],ty:=99}),(2,Ld 2 (x.1))]) (PI s ST) (λx=>s.length+1-x.2) ([],ST) rfl (λ_=>rfl) ?_ aP ⟨rfl,rfl,trivial⟩ ?_
  ·rcases Z0a ST s.length with h|h
   ·exact .inl ⟨h,Z02 _,λh=>absurd h (Z40 _),rfl,rfl,Z08 _⟩
   ·exact .inr ⟨h,by simp only;omega,Z08 _,.inl ⟨iX.2 h,rfl⟩⟩
  rintro⟨D,i⟩ hI
  rcases hI with ⟨hi,hst,hdot,hD,hsp,hDl⟩|⟨hi1,hi2,hDl,hres⟩
  ·simp only at hi hst hdot hD hsp hDl |-
   repeat'(first|refine yA ?_|refine y2 ?_ ?_|refine y4 λh=>?_|exact y5|fail)
   refine cy (σ:=Nat) (λk=>[(7,nI k)]) (λ_=>[(0,some {cells:=[.bool false,.int .i64 0,.slc none 0 (some 0)],ty:=99}),(1,some {cells:=[.bool root,.int .i64 (U:Int),.row 2 3 (D).length],ty:=99}),(2,Ld 2 (D))]) (λk=>i<=k/\k<=s.length/\∀ j,i<=j->j<k->s.getD j 0≠46) (λk=>s.length-k) i rfl (λ_=>rfl) ⟨Z02 _,aa,λj h1 h2=>by omega⟩ aP ⟨rfl,rfl,fF rfl trivial⟩ ?_;rintro k ⟨hk1,hk2,hk3⟩
   have step:k<s.length-> ¬((s.getD k 0).toNat:Int)=46->∀ j,i<=j->j<k+1->s.getD j 0≠46:=λh1 h2 j h3 h4=>by
    rcases Z0a j k with h|h
    ·exact hk3 j h3 h
    ·obtain rfl:j=k:=aa
     exact Ie (n:=46) ac h2
   by_cases hgo:k<s.length/\ ¬((s.getD k 0).toNat:Int)=46
   ·obtain⟨hg1,hg2⟩:=hgo
    repeat'(first|refine yA ?_|refine y2 ?_ ?_|refine y4 λh=>?_|exact y5|fail)
    refine dz (k+1) ⟨aa,aa,step hg1 hg2⟩ aa rfl aP ⟨rfl,rfl,fF rfl trivial⟩ rfl (by unfold Ld;generalize List.map _ _=cg;cases cg<;>rfl) ac
   ·have hcut:(k=s.length/\aL 46 (s.drop i)=[((s.take k).drop i)])\/(k<s.length/\((s.getD k 0).toNat:Int)=46/\aL 46 (s.drop i)=((s.take k).drop i)::aL 46 (s.drop (k+1))):=by
     rcases Z0a k s.length with h|h
     ·have h2:((s.getD k 0).toNat:Int)=46:=Z4c.1 λh2=>hgo ⟨h,h2⟩
      exact .inr ⟨h,h2,vl hk1 h hk3 (um (n:=46) h2)⟩
     ·exact .inl ⟨aa,vk hk1 aa hk3⟩
    have hseg:=ka ((s.take k).drop i) (by rw[Z1u,Z19];omega)
    have hsl:(((s.take k).drop i)).length=k-i:=by rw[Z1u,Z19];omega
    have hrest: ¬s.drop ST=[]:=λe=>by have:=iX.1 e;omega
    have hno:(a_ ((s.take k).drop i)=false\/(k+1=s.length/\aL 46 (s.drop i)=((s.take k).drop i)::aL 46 (s.drop (k+1))))->ai s=(z0,false):=λh=>by
     rw[hpar,lr,if_neg hrest,if_neg];rw[hsp]
     rcases h with h|⟨h1,h2⟩
     ·intro h3
      rw[Z1g,Z07] at h3
      rcases hcut with ⟨_,hcu⟩|⟨_,_,hcu⟩<;>rw[hcu] at h3<;>simp only[Z1b,Z2u,Z3m,Z07] at h3
      ·rw[h] at h3;exact absurd h3.2 ac
      ·rw[h] at h3;exact absurd h3.2.1 ac
     ·rw[h2,iX.2 (aa:s.length<=k+1)]
      intro h3;rw[Z1g,Z07] at h3;simp[aL,a_] at h3
    have hi2:(ST<i/\(i:Int)-1=((i-1:Nat):Int))\/i=ST:=by rcases Z0a ST i with h|h<;>omega
    have hkk:k<s.length->((s.getD k 0).toNat:Int)=46:=λh=>Z4c.1 λh2=>hgo ⟨h,h2⟩
    repeat'(first|refine yA ?_|refine y2 ?_ ?_|refine y4 λh=>?_|exact y5|fail)
    all_goals
     first
      |refine RegX.chunkN 4 rfl rfl ?_ (RegX.eqv 64 (congrArg nI (aa:(i:Int)-1=((i-1:Nat):Int))) rfl ?_)
      |skip
     repeat'(first|refine yA ?_|refine y2 ?_ ?_|refine y4 λh=>?_|exact y5|fail)
     cases hS:a_ ((s.take k).drop i)<;>rw[hS] at hseg
     ·
      have hz:=hno (.inl hS)
      repeat'(first|refine y1 ?_|refine y2 ?_ ?_|refine bG hseg ?_|refine dv (.inl rfl) rfl (eu hz) rfl|refine y3 ?_|exact y5|fail)
     ·rcases hcut with ⟨hke,hcu⟩|⟨hkl,hkc,hcu⟩
      ·
       first|(exfalso;omega)|skip
       all_goals
        repeat'(first|refine yA ?_|refine y2 ?_ ?_|refine y4 λh=>?_|refine bG hseg ?_|exact y5|fail)
        refine gZ (i:=2) (g:=3) (m:=D.length) (w:=1) (cs:=D.map S.str) (foot:=[4]) (k:=1) (add:=[.str ((s.take k).drop i)]) rfl rfl aq rfl rfl rfl rfl rfl rfl rfl hsz ac rfl ⟨Z02 _,rfl⟩ ac aq rfl (by rw[hby];omega) aa rfl ?_
        repeat'(first|refine yA ?_|refine y2 ?_ ?_|exact y5|fail)
        refine fX (D++[((s.take k).drop i)],k+1) (.inr ⟨by simp only;omega,by simp only;omega,by simp only[Z03,Z04,Z0e];omega,.inr ⟨hrest,by simp only[Z1g,hD,Z1b,hS,Z2u];rfl,by rw[hsp,hcu]⟩⟩) (by simp only;omega) [0,1,5,6] rfl ?_ ?_ ?_
        ·repeat'(first|exact ah _|exact dd _|exact Z0o|refine⟨?_,?_⟩)
        ·refine⟨rfl,?_,bh ?_ trivial⟩
         ·simp only[Z03,Z04,Z0e];rfl
         ·rw[Z0d];rfl
        ·unfold Ld;generalize List.map _ _=cg;cases cg<;>rfl
      ·by_cases hlast:k+1=s.length
       ·
        first|(exfalso;omega)|skip
        all_goals
         have hz:=hno (.inr ⟨hlast,hcu⟩)
         repeat'(first|refine y1 ?_|refine y2 ?_ ?_|refine y4 λh=>?_|refine bG hseg ?_|refine dv (.inl rfl) rfl (eu hz) rfl|refine y3 ?_|exact y5|fail)
       ·
        first|(exfalso;omega)|skip
        all_goals
         repeat'(first|refine yA ?_|refine y2 ?_ ?_|refine y4 λh=>?_|refine bG hseg ?_|exact y5|fail)
         refine gZ (i:=2) (g:=3) (m:=D.length) (w:=1) (cs:=D.map S.str) (foot:=[4]) (k:=1) (add:=[.str ((s.take k).drop i)]) rfl rfl aq rfl rfl rfl rfl rfl rfl rfl hsz ac rfl ⟨Z02 _,rfl⟩ ac aq rfl (by rw[hby];omega) aa rfl ?_
         repeat'(first|refine yA ?_|refine y2 ?_ ?_|exact y5|fail)
         refine fX (D++[((s.take k).drop i)],k+1) (.inl ⟨by simp only;omega,by simp only;omega,λ_=>by simp only[Z4t];exact hkc,by simp only[Z1g,hD,Z1b,hS,Z2u];rfl,by rw[hsp,hcu];simp only[Z14,Z35],by simp only[Z03,Z04,Z0e];omega⟩) (by simp only;omega) [0,1,5,6] rfl ?_ ?_ ?_
         ·repeat'(first|exact ah _|exact dd _|exact Z0o|refine⟨?_,?_⟩)
         ·refine⟨rfl,?_,bh ?_ trivial⟩
          ·simp only[Z03,Z04,Z0e];rfl
          ·rw[Z0d];rfl
         ·unfold Ld;generalize List.map _ _=cg;cases cg<;>rfl
  ·simp only at hi1 hi2 hDl hres |-
   have hpr:ai s=fQ ⟨root,(U:Int),D⟩:=by
    rw[hpar,lr]
    rcases hres with ⟨h1,h2⟩|⟨h1,h2,h3⟩
    ·rw[if_pos h1,h2]
    ·rw[if_neg h1,h3,h2];try rfl
   have hs:∀ j,j<D.length->(D.getD j []).length<9223372036854775807:=λj hj=>by
    rcases hres with ⟨_,h2⟩|⟨_,h2,_⟩
    ·rw[h2] at hj;simp at hj
    ·have:=mJ h2 hj;omega
   have hv:=ga root (U:Int) D hs
   have hend:∀ b,aG ⟨root,(U:Int),D⟩=b->ai s=if b then (⟨root,(U:Int),D⟩,true) else (z0,false):=λb h=>by
    rw[hpr];unfold fQ;rw[h]
   refine Ex.segF ?_
   cases hV:aG ⟨root,(U:Int),D⟩<;>rw[hV] at hv
   ·
    repeat'(first|refine y1 ?_|refine y2 ?_ ?_|refine y4 λh=>?_|refine bG hv ?_|refine dv (.inl rfl) rfl (eu (hend false hV)) rfl|refine y3 ?_|exact y5|fail)
   ·
    repeat'(first|refine y1 ?_|refine y2 ?_ ?_|refine y4 λh=>?_|refine bG hv ?_|refine dv (.inl rfl) rfl (gR (hend true hV)) rfl|refine y3 ?_|exact y5|fail)
end
def de (l:List By):Prop:=∀ i,i<l.length->(l.getD i []).length<9223372036854775807
theorem tL (br:Bool) (bu:Int) (bs:List By) (rr:Bool) (ru:Int) (rs:List By) (h1s:de bs) (h2s:de rs):
 FQ 101 [.agg [.bool br,.int .i64 bu,bc bs],.agg [.bool rr,.int .i64 ru,bc rs]] 0 [] (x6 (ax ⟨br,bu,bs⟩ ⟨rr,ru,rs⟩)) 0 []:=by
 have ha:=ga br bu bs h1s;have hv:=ga rr ru rs h2s;refine wW Tryz.func101 ?_
 cases h1:aG ⟨br,bu,bs⟩<;>rw[h1] at ha
 ·
  repeat'(first|refine y1 ?_|refine y2 ?_ ?_|refine bG ha ?_|refine dv (.inl rfl) rfl (eu (by simp[ax,bR,h1])) rfl|refine y3 ?_|exact y5|fail)
 cases br
 ·
  repeat'(first|refine y1 ?_|refine y2 ?_ ?_|refine bG ha ?_|refine dv (.inl rfl) rfl (eu (by simp[ax,bR])) rfl|refine y3 ?_|exact y5|fail)
 have ha1:bR ⟨true,bu,bs⟩=true:=by unfold bR;rw[h1];rfl
 cases h2:aG ⟨rr,ru,rs⟩<;>rw[h2] at hv
 ·
  repeat'(first|refine y1 ?_|refine y2 ?_ ?_|(refine wC ?_;first|(refine CallG.is 100 ?_;refine bo ha ?_)|fail)|(refine wC ?_;first|(refine CallG.is 100 ?_;refine bo hv ?_)|fail)|refine dv (.inl rfl) rfl (eu (by simp[ax,h2])) rfl|refine y3 ?_|exact y5|fail)
 obtain⟨a1,a2,a3⟩:=cT ha1;obtain⟨v1,v2,v3,v4,v5,v6⟩:=aR h2;simp only at a1 a2 a3 v1 v2 v3 v4 v5 v6;have hby:(Tryz.prog.types[9]).bytes=16:=aK;have hsz:(Tryz.prog.types[9]).size=1:=aK;cases rr
 ·by_cases hn:(bs.length:Int)<ru
  ·
   repeat'(first|refine y1 ?_|refine y2 ?_ ?_|refine y4 λh=>?_|(refine wC ?_;first|(refine CallG.is 100 ?_;refine bo ha ?_)|fail)|(refine wC ?_;first|(refine CallG.is 100 ?_;refine bo hv ?_)|fail)|refine dv (.inl rfl) rfl (eu (by simp[ax,ha1,h2];omega)) rfl|refine y3 ?_|exact y5|fail)
  ·obtain⟨k,hk⟩:∃ k:Nat,(bs.length:Int)-ru=(k:Int):=⟨((bs.length:Int)-ru).toNat,aa⟩
   by_cases hlong:32<(bs.length:Int)-ru+rs.length
   ·
    repeat'(first|refine y1 ?_|refine y2 ?_ ?_|refine y4 λh=>?_|(refine wC ?_;first|(refine CallG.is 100 ?_;refine bo ha ?_)|fail)|(refine wC ?_;first|(refine CallG.is 100 ?_;refine bo hv ?_)|fail)|refine dv (.inl rfl) rfl (eu (by simp[ax,ha1,h2];omega)) rfl|refine y3 ?_|exact y5|fail)
   ·
    repeat'(first|refine yA ?_|refine y2 ?_ ?_|refine y4 λh=>?_|(refine wC ?_;first|(refine CallG.is 100 ?_;refine bo ha ?_)|fail)|(refine wC ?_;first|(refine CallG.is 100 ?_;refine bo hv ?_)|fail)|exact y5|fail)
    refine RegX.chunkN 8 rfl rfl ?_ (RegX.eqv 54 (congrArg nI hk) rfl ?_)
    ·
     repeat'(first|refine y2 ?_ ?_|exact y5|fail)
    have hjp:ax ⟨true,bu,bs⟩ ⟨false,ru,rs⟩=(⟨true,0,bs.take k++rs⟩,true):=by
     simp only[ax,ha1,h2];rw[if_neg aq,if_neg aq,if_neg aa,hk];rfl
    have hfk:cX (λi=>[S.str (bs.getD i [])]) k=(bs.take k).map S.str:=m6 bs aa
    have hkl:(bs.take k).length=k:=by rw[Z19];omega
    cases k with
    |zero=>
     repeat'(first|refine y1 ?_|refine y2 ?_ ?_|refine RegX.apNil rfl rfl rfl rfl rfl rfl rfl ?_|refine y3 ?_|exact y5|fail)
     cases rs with
     |nil=>
      refine RegX.apNil rfl rfl rfl rfl rfl rfl rfl ?_
      repeat'(first|refine y1 ?_|refine y2 ?_ ?_|refine dv (.inl rfl) rfl (vI (by rw[hjp];simp)) rfl|refine y3 ?_|exact y5|fail)
     |cons d l=>
      refine mo [.app (d::l).length ((d::l).map S.str)] rfl rfl ⟨trivial,trivial,rfl,by rw[Z0c],?_,?_,(λ_=>Z1n _),?_,aa⟩ ?_
      ·rw[dM];first|rfl|simp
      ·rw[dM];exact fo _
      ·rw[hby];omega
      repeat'(first|refine y1 ?_|refine y2 ?_ ?_|refine Ex.fzC 2 2 (λk=>[.str ((d::l).getD k [])]) 1 rfl ac rfl rfl rfl rfl rfl (λ_ _=>rfl) (λk j x hk hx=>lu hk hx) rfl ?_|refine dv (.inl rfl) rfl (gR (by rw[hjp];simp)) rfl|refine y3 ?_|exact y5|fail)
    |succ k=>
     generalize hB:bs.take (k+1)=B at*
     repeat'(first|refine yA ?_|refine y2 ?_ ?_|exact y5|fail)
     refine mo [.app (k+1) (B.map S.str)] rfl rfl ⟨trivial,trivial,rfl,by rw[Z0c],?_,?_,(λ_=>Z1n _),?_,aa⟩ ?_
     ·rw[hfk];first|rfl|simp
     ·rw[hfk];exact fo _
     ·rw[hby];omega
     repeat'(first|refine yA ?_|refine y2 ?_ ?_|exact y5|fail)
     have hmr:(B.map S.str).length=(k+1)*(Tryz.prog.types[9]).size:=by rw[hsz,Z0z,hkl];omega
     refine mo [.app (B++rs).length ((B++rs).map S.str)] rfl rfl ⟨?_,trivial,rfl,by rw[Z03,hkl],?_,?_,(λh=>nomatch h),?_,?_⟩ ?_
     ·exact Z5a hmr.symm
     ·rw[dM];show _=List.take ((k+1)*(Tryz.prog.types[9]).size) (B.map S.str)++_
      rw[<-hmr,Z1v,Z0d]
     ·rw[dM];exact fo _
     ·rw[Z03,hkl,hby];omega
     ·rw[Z03,hkl];omega
     repeat'(first|refine y1 ?_|refine y2 ?_ ?_|refine Ex.fzC 2 2 (λi=>[.str ((B++rs).getD i [])]) 1 rfl ac rfl rfl rfl rfl rfl (λ_ _=>rfl) (λi j x hi hx=>lu hi hx) rfl ?_|refine dv (.inl rfl) rfl (gR hjp) rfl|refine y3 ?_|exact y5|fail)
 ·
  cases rs with
  |nil=>
   repeat'(first|refine y1 ?_|refine y2 ?_ ?_|(refine wC ?_;first|(refine CallG.is 100 ?_;refine bo ha ?_)|fail)|(refine wC ?_;first|(refine CallG.is 100 ?_;refine bo hv ?_)|fail)|refine RegX.apNil rfl rfl rfl rfl rfl rfl rfl ?_|refine dv (.inl rfl) rfl (vI (by simp[ax,ha1,h2])) rfl|refine y3 ?_|exact y5|fail)
  |cons d l=>
   repeat'(first|refine yA ?_|refine y2 ?_ ?_|(refine wC ?_;first|(refine CallG.is 100 ?_;refine bo ha ?_)|fail)|(refine wC ?_;first|(refine CallG.is 100 ?_;refine bo hv ?_)|fail)|exact y5|fail)
   refine mo [.app (d::l).length ((d::l).map S.str)] rfl rfl ⟨trivial,trivial,rfl,by rw[Z0c],?_,?_,(λ_=>Z1n _),?_,aa⟩ ?_
   ·rw[dM];first|rfl|simp
   ·rw[dM];exact fo _
   ·rw[hby];omega
   repeat'(first|refine y1 ?_|refine y2 ?_ ?_|refine Ex.fzC 2 2 (λk=>[.str ((d::l).getD k [])]) 1 rfl ac rfl rfl rfl rfl rfl (λ_ _=>rfl) (λk j x hk hx=>lu hk hx) rfl ?_|refine dv (.inl rfl) rfl (gR (by simp[ax,ha1,h2])) rfl|refine y3 ?_|exact y5|fail)
theorem oO (b r:Pth) (h1:de b.segs) (h2:de r.segs):FQ 101 [hY b,hY r] 0 [] (x6 (ax b r)) 0 []:=tL b.root b.up b.segs r.root r.up r.segs h1 h2
theorem rI (br:Bool) (bu:Int) (bs:List By) (h1s:de bs):FQ 102 [.agg [.bool br,.int .i64 bu,bc bs]] 0 [] (x6 (aW ⟨br,bu,bs⟩)) 0 []:=by
 have ha:=ga br bu bs h1s;refine wW Tryz.func102 ?_
 cases h1:aG ⟨br,bu,bs⟩<;>rw[h1] at ha
 ·
  repeat'(first|refine y1 ?_|refine y2 ?_ ?_|refine bG ha ?_|refine dv (.inl rfl) rfl (eu (by simp[aW,bR,h1])) rfl|refine y3 ?_|exact y5|fail)
 cases br
 ·
  repeat'(first|refine y1 ?_|refine y2 ?_ ?_|refine bG ha ?_|refine dv (.inl rfl) rfl (eu (by simp[aW,bR])) rfl|refine y3 ?_|exact y5|fail)
 have ha1:bR ⟨true,bu,bs⟩=true:=by unfold bR;rw[h1];rfl
 obtain⟨a1,a2,a3⟩:=cT ha1;simp only at a1 a2 a3;have hby:(Tryz.prog.types[9]).bytes=16:=aK;by_cases h0:bs.length=0
 ·
  repeat'(first|refine y1 ?_|refine y2 ?_ ?_|refine y4 λh=>?_|refine bG ha ?_|refine dv (.inl rfl) rfl (eu (by simp[aW,ha1];simp_all;done)) rfl|refine y3 ?_|exact y5|fail)
 ·
  obtain⟨k,hk⟩:∃ k:Nat,bs.length=k+1:=⟨bs.length-1,aa⟩
  have hk1:(bs.length:Int)-1=(k:Int):=aa
  have hpp:aW ⟨true,bu,bs⟩=(⟨true,0,bs.take k⟩,true):=by
   unfold aW;rw[if_neg]
   ·simp[hk]
   ·simp[ha1,h0]
  have hfk:cX (λi=>[S.str (bs.getD i [])]) k=(bs.take k).map S.str:=m6 bs aa
  have hkl:(bs.take k).length=k:=by rw[Z19];omega
  repeat'(first|refine yA ?_|refine y2 ?_ ?_|refine y4 λh=>?_|refine bG ha ?_|exact y5|fail)
  refine RegX.chunkN 6 rfl rfl ?_ (RegX.eqv 24 (congrArg nI hk1) rfl ?_)
  ·
   repeat'(first|refine y2 ?_ ?_|exact y5|fail)
  cases k with
  |zero=>
   repeat'(first|refine y1 ?_|refine y2 ?_ ?_|refine RegX.apNil rfl rfl rfl rfl rfl rfl rfl ?_|refine dv (.inl rfl) rfl (vI (by rw[hpp];simp)) rfl|refine y3 ?_|exact y5|fail)
  |succ k=>
   generalize hB:bs.take (k+1)=B at*
   repeat'(first|refine yA ?_|refine y2 ?_ ?_|exact y5|fail)
   refine mo [.app B.length (B.map S.str)] rfl rfl ⟨trivial,trivial,rfl,by rw[Z0c,hkl],?_,?_,(λ_=>Z1n _),?_,?_⟩ ?_
   ·rw[hfk];first|rfl|simp
   ·rw[hfk];exact fo _
   ·rw[hby];omega
   ·omega
   repeat'(first|refine y1 ?_|refine y2 ?_ ?_|refine Ex.fzC 1 2 (λi=>[.str (B.getD i [])]) 1 rfl ac rfl rfl rfl rfl rfl (λ_ _=>rfl) (λi j x hi hx=>lu hi hx) rfl ?_|refine dv (.inl rfl) rfl (gR hpp) rfl|refine y3 ?_|exact y5|fail)
theorem BK (p:Pth) (h1:de p.segs):FQ 102 [hY p] 0 [] (x6 (aW p)) 0 []:=rI p.root p.up p.segs h1
