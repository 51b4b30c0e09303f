import Derived.Test.YtegjgpldfgjoiaaGreatDoorCnM17
set_option linter.all false
namespace Go.Proofs.YtegjgpldfgjoiaaGreatDoor
open Go Ab
set_option maxRecDepth 100000
set_option maxHeartbeats 40000000
section
variable {l:List By}
theorem y_ {j:Nat} (h:j<l.length):l.take (j+1)=l.take j++[l.getD j []]:=by
 rw[Z49,Z01 h,Z00,Z01 h];rfl
theorem rO (h:l.all aT=true) (j:Nat):(Lib.join (l.take j) [46]).length<=5*l.length:=by
 have h2:(l.take j).all aT=true:=by
  rw[Z0i] at h |-
  exact λx hx=>h x (Z2x hx)
 have:=m7 h2;rw[Z19] at this;omega
theorem lB (h:l.all aT=true) {j:Nat} (hj:j<l.length):(l.getD j []).length<=4:=by
 rw[Z0i] at h;rw[Z00,Z01 hj];exact (ek (h _ (Z0s hj))).2
theorem H8 (root:Bool) (up:Int) (segs:List By) (hs:∀ i,i<segs.length->(segs.getD i []).length<9223372036854775807):FC Tryz.prog 54 [.agg [.bool root,.int .i64 up,aE segs]] 0 [] (sV (aI ⟨root,up,segs⟩)) 0 []:=by
 have hv:=fA root up segs hs;refine wW Tryz.func54 ?_
 cases h1:ay ⟨root,up,segs⟩<;>rw[h1] at hv
 ·
  repeat'(first|exact y0|refine y1 ?_|refine y2 ?_ ?_|refine y4 λh=>?_|refine wX 100 (bo hv ?_)|refine Fin.str (.inl rfl) rfl ?_|refine y3 ?_|exact y5|fail)
  unfold aI;rw[h1];rfl
 ·
  obtain⟨v1,v2,v3,v4,v5,v6⟩:=aJ h1;simp only at v1 v2 v3 v4 v5 v6;obtain⟨u,rfl⟩:=Z2a v1
  have hpre:aI ⟨root,u,segs⟩=((if root then [92] else [])++List.replicate u 94)++Lib.join segs [46]:=by
   unfold aI;rw[if_pos h1];simp only;cases root
   ·simp
   ·have:=v4 rfl
    have hu:u=0:=aa;subst hu;simp
  rw[hpre];clear hpre
  obtain⟨pre,hpre⟩:∃ pre:By,pre=(if root then [92] else []):=⟨_,rfl⟩
  rw[<-hpre]
  have hpl:pre.length<=1:=by rw[hpre];cases root<;>simp
  cases root
  all_goals
   repeat'(first|exact y0|refine y1 ?_|refine y2 ?_ ?_|refine y4 λh=>?_|refine wX 100 (bo hv ?_)|refine y3 ?_|exact y5|fail)
   refine Ex.inv (σ:=Nat) (λj=>[(4,nI j),(3,sV (pre++List.replicate j 94))]) (λ_=>[(0,some {cells:=[.bool _,.int .i64 (u:Int),aE segs],ty:=99})]) (λj=>j<=u) (λj=>u-j) 0 rfl (λ_=>rfl) (Z08 _) ⟨VLe.refl _,VLe.of_eq (congrArg sV (by rw[hpre];rfl)),trivial⟩ ⟨rfl,trivial⟩ ?_;intro j hj;by_cases hlt:j<u
   ·
    repeat'(first|exact y0|refine y1 ?_|refine y2 ?_ ?_|refine y4 λh=>?_|refine y3 ?_|exact y5|fail)
    all_goals try first
     |exact ae aa aa
     |(simp only[Z03,Z36,Z04,Z0e];omega)
    refine LoopR.same (j+1) aa aa rfl ⟨VLe.refl _,VLe.of_eq (congrArg sV ?_),trivial⟩ ⟨rfl,trivial⟩ rfl rfl ac;rw[List.replicate_succ',<-Z14]
   ·
    obtain rfl:j=u:=aa
    repeat'(first|exact y0|refine y1 ?_|refine y2 ?_ ?_|refine y4 λh=>?_|refine y3 ?_|exact y5|fail)
    refine Ex.inv (σ:=Nat) (λi=>[(5,nI i),(3,sV ((pre++List.replicate j 94)++Lib.join (segs.take i) [46]))]) (λ_=>[(0,some {cells:=[.bool _,.int .i64 (j:Int),aE segs],ty:=99})]) (λi=>i<=segs.length) (λi=>segs.length-i) 0 rfl (λ_=>rfl) (Z08 _) ⟨VLe.refl _,VLe.of_eq (congrArg sV (Z0u _).symm),trivial⟩ ⟨rfl,trivial⟩ ?_;intro i hi;have hjl:=rO v5 i;by_cases hlt2:i<segs.length
    ·
     have hsg:=lB v5 hlt2;have htk:=qg (c:=[46]) (l:=segs.take i) (a:=segs.getD i []);rw[<-y_ hlt2] at htk;by_cases h0:i=0
     ·subst h0
      repeat'(first|exact y0|refine y1 ?_|refine y2 ?_ ?_|refine y4 λh=>?_|refine y3 ?_|exact y5|fail)
      all_goals try first
       |exact ae aa aa
       |(simp only[Z03,Z36,Z04,Z0e];omega)
      refine LoopR.same 1 aa aa rfl ⟨VLe.refl _,VLe.of_eq (congrArg sV ?_),trivial⟩ ⟨rfl,trivial⟩ rfl rfl ac;rw[show segs.take 1=segs.take (0+1) from rfl,htk,if_pos an,List.take_zero,uw,Z0u]
     ·
      have hne:segs.take i≠[]:=by
       intro e;have:=congrArg List.length e;rw[Z19,Z0e] at this;omega
      rw[if_neg hne] at htk
      repeat'(first|exact y0|refine y1 ?_|refine y2 ?_ ?_|refine y4 λh=>?_|refine y3 ?_|exact y5|fail)
      all_goals try first
       |exact ae aa aa
       |(simp only[Z03,Z36,Z04,Z0e];omega)
      refine LoopR.same (i+1) aa aa rfl ⟨VLe.refl _,VLe.of_eq (congrArg sV ?_),trivial⟩ ⟨rfl,trivial⟩ rfl rfl ac;rw[htk];simp only[Z14]
    ·
     obtain rfl:i=segs.length:=aa
     repeat'(first|exact y0|refine y1 ?_|refine y2 ?_ ?_|refine y4 λh=>?_|refine Fin.str (.inl rfl) rfl ?_|refine y3 ?_|exact y5|fail)
     all_goals (rw[Z1v])
theorem jQ (p:Pth) (hs:∀ i,i<p.segs.length->(p.segs.getD i []).length<9223372036854775807):FC Tryz.prog 54 [gw p] 0 [] (sV (aI p)) 0 []:=H8 p.root p.up p.segs hs
end
section
variable {s:By} {i k:Nat}
abbrev IM (g:Nat) (D:List By):Option Bl:=eI 9 (g+1) 1 (D.map S.str)
theorem j_ {D:List By} {j:Nat} {x:S} (hk:k<D.length) (h:([S.str (D.getD k [])])[j]? =some x):(D.map S.str)[k*1+j]? =some x/\bE x=true:=by
 cases j with
 |succ j=>simp at h
 |zero=>
  simp only[Z11,Z06] at h;subst h;rw[Z1p,Z0p,Z0t,Z01 hk,Z00,Z01 hk];exact⟨rfl,rfl⟩
theorem ic:s.drop i=[]↔s.length<=i:=an
theorem Em (h:i<s.length) (hc:s.getD i 0=94):cI (s.drop i)=((cI (s.drop (i+1))).1+1,(cI (s.drop (i+1))).2):=by
 rw[Z0k h]
 have:s[i]=94:=by rw[Z00,Z01 h] at hc;exact hc
 rw[this];simp[cI]
theorem yY (hc:∀ _:i<s.length,s.getD i 0≠94):cI (s.drop i)=(0,s.drop i):=by
 rcases Z0a i s.length with h|h
 ·rw[Z0k h]
  have: ¬s[i]=94:=by have:=hc h;rw[Z00,Z01 h] at this;exact this
  simp[cI,this]
 ·rw[Z10 h];rfl
theorem lM {j:Nat}:(s.drop i).getD j 0=s.getD (i+j) 0:=by
 rw[Z00,Z00,Z2k]
theorem FW {c:UInt8} {n:Nat} (hn:n<256) (h: ¬(c.toNat:Int)=(n:Int)):c≠UInt8.ofNat n:=λe=>h (by rw[e];simp;omega)
theorem sq {c:UInt8} {n:Nat} (h:(c.toNat:Int)=(n:Int)):c=UInt8.ofNat n:=by
 have h:c.toNat=n:=aa;rw[<-h];simp
theorem tr (hik:i<=k) (hk:k=s.length) (h:∀ j,i<=j->j<k->s.getD j 0≠46):aD 46 (s.drop i)=[(s.take k).drop i]:=by
 subst hk;rw[Z1v]
 refine ly λj hj=>?_
 rw[lM];rw[Z1u] at hj;exact h _ aa aa
theorem tu (hik:i<=k) (hk:k<s.length) (h:∀ j,i<=j->j<k->s.getD j 0≠46) (hc:s.getD k 0=46):aD 46 (s.drop i)=(s.take k).drop i::aD 46 (s.drop (k+1)):=by
 rw[pY (m:=k-i) (by rw[Z1u];omega) (λj hj=>by rw[lM];exact h _ aa aa) (by rw[lM,show i+(k-i)=k by omega];exact hc)];rw[Z5c,show i+(k-i+1)=k+1 by omega];congr 1;rw[List.drop_take]
def PI (s:By) (st:Nat) (x:List By×Nat):Prop:=
 (x.2<s.length/\st<=x.2/\(st<x.2->((s.getD (x.2-1) 0).toNat:Int)=46)/\x.1.all aT=true/\aD 46 (s.drop st)=x.1++aD 46 (s.drop x.2)/\x.1.length<=x.2)\/
 (s.length<=x.2/\x.2<=s.length+1/\x.1.length<=s.length+1/\((s.drop st=[]/\x.1=[])\/(s.drop st≠[]/\x.1.all aT=true/\aD 46 (s.drop st)=x.1)))
section
variable {P:Program} {b:Nat} {env:List V} {n:Nat} {R:Post} {c:Code}
theorem Ex.segF {b0:Option Bl} {x y:S} {ty:Nat} {D:List By} (k:Ex P b c env n [(0,b0),(1,some {cells:=[x,y,aE D],ty:=ty})] R):Ex P b c env n [(0,b0),(1,some {cells:=[x,y,.row 2 3 D.length],ty:=ty}),(2,IM 2 D)] R:=by
 cases D with
 |nil=>
  refine Ex.subF ?_ k;refine SubF.one 1 (bl:={cells:=[x,y,.row 2 3 0],ty:=ty}) (bl':={cells:=[x,y,aE []],ty:=ty}) rfl (λj=>?_) rfl (λφ w b h=>BlAt.cells (bl:={cells:=[x,y,.row 2 3 0],ty:=ty}) (cs:=[x,y,aE []]) ⟨SLe.refl _,SLe.refl _,SLe.row0,trivial⟩ h)
  rcases j with _|_|_|j<;>rfl
 |cons d l=>
  refine Ex.fzC 1 2 (λk=>[.str ((d::l).getD k [])]) 1 (s:=.row 2 3 (d::l).length) (i:=2) (N:=(d::l).length) (bl:={cells:=(d::l).map S.str,ty:=9,more:=true,sym:=true,flat:=true,gh:=some (3,1)}) (blj:={cells:=[x,y,.row 2 3 (d::l).length],ty:=ty}) rfl ac rfl rfl rfl rfl rfl (λ_ _=>rfl) (λk j x hk hx=>j_ hk hx) rfl ?_;refine Ex.subF (λj bl h=>⟨bl,?_,rfl,λ_ _ _ h=>h⟩) k
  rcases j with _|_|_|j
  ·exact h
  ·exact h
  ·cases h
  ·cases h
end
theorem vU (s:By):∃ (root:Bool) (U ST:Nat),ah s=dJ root U (s.drop ST)/\ST<=s.length/\(root=true->U=0/\ST=1/\s≠[]/\((s.getD 0 0).toNat:Int)=92)/\(root=false->ST=U/\cI s=(U,s.drop U)/\(0<s.length-> ¬((s.getD 0 0).toNat:Int)=92)):=by
 rcases GV s with ⟨e1,e2⟩|⟨e1,e2⟩
 ·refine⟨true,0,1,by unfold ah;rw[e1];rfl,?_,λ_=>⟨rfl,rfl,λe=>by rw[e] at e2;simp at e2,by rw[e2];rfl⟩,λh=>by cases h⟩
  rw[e2];simp
 ·have h1:=qJ s
  have h2:=s8 s
  have h3:cI s=((cI s).1,s.drop (cI s).1):=by
   have key:∀ (u:Nat) (r:By),s=List.replicate u 94++r->s.drop u=r:=λu r h=>by rw[h];simp
   rw[key _ _ h1]
  refine⟨false,(cI s).1,(cI s).1,?_,h2.1,(λh=>(by cases h)),λ_=>⟨rfl,h3,λhp e=>?_⟩⟩
  ·unfold ah;rw[e1];simp only[Z0l,if_false]
   conv=>lhs;rw[h3]
  ·cases s with
   |nil=>simp at hp
   |cons b l=>exact e2 (by simpa using sq (n:=92) e)
theorem dU (s:By) (hl:s.length<=4398046511104):FC Tryz.prog 51 [sV s] 0 [] (vR (ah s)) 0 []:=by
 obtain⟨root,U,ST,hpar,hST,hr1,hr2⟩:=vU s;refine wW Tryz.func51 ?_;refine Ex.seq ?_;refine Ex.reg hm ?_;refine RegX.chunk rfl ?_ ?_
 ·repeat' (first|exact Z0o|refine And.intro ?_ ?_)
 refine RegX.nilF ?_;refine Then.normal ?_;refine Ex.seq ?_;refine Ex.reg hm ?_;refine RegX.chunk rfl ?_ ?_
 ·repeat' (first|exact Z0o|refine And.intro ?_ ?_)
 refine RegX.nilF ?_;refine Then.normal ?_;refine Ex.seq ?_;refine Ex.reg hm ?_;refine RegX.chunk rfl ?_ ?_
 ·repeat' (first|exact Z0o|refine And.intro ?_ ?_)
 refine RegX.nilF ?_;refine Then.normal ?_;refine Ex.seq ?_;refine Ex.cutS 3 99 2 [(0,sV s),(2,.s (.ptr (some (0,0)))),(4,.s (.ptr (some (1,0)))),(5,nI (if root then 1 else 0))] [(0,some {cells:=[.bool false,.int .i64 0,.slc none 0 (some 0)],ty:=99}),(1,some {cells:=[.bool root,.int .i64 0,.slc none 0 (some 0)],ty:=99})] rfl ?_ ?_
 ·cases root
  ·obtain⟨rfl,hups,h0⟩:=hr2 rfl
   by_cases hne:s=[]
   ·
    repeat'(first|((with_reducible refine BrG.neS (λh=>?_) (λh=>?_))<;>try (exact absurd hne h))|exact y0|refine y1 ?_|refine y2 ?_ ?_|refine y4 λh=>?_|refine y3 ?_|exact y5|fail)
    refine CutR.at [0,1] rfl rfl ⟨VLe.refl _,VLe.refl _,VLe.refl _,VLe.refl _,trivial⟩ ⟨rfl,rfl,trivial⟩ rfl
   ·have h0:=h0 (Z1s.2 hne)
    have hpos:=Z1s.2 hne
    repeat'(first|((with_reducible refine BrG.neS (λh=>?_) (λh=>?_))<;>try (exact absurd h hne))|exact y0|refine y1 ?_|refine y2 ?_ ?_|refine y4 λh=>?_|refine y3 ?_|exact y5|fail)
    refine CutR.at [0,1] rfl rfl ⟨VLe.refl _,VLe.refl _,VLe.refl _,VLe.refl _,trivial⟩ ⟨rfl,rfl,trivial⟩ rfl
  ·obtain⟨rfl,rfl,hne,h0⟩:=hr1 rfl
   have hpos:=Z1s.2 hne
   repeat'(first|((with_reducible refine BrG.neS (λh=>?_) (λh=>?_))<;>try (exact absurd h hne))|exact y0|refine y1 ?_|refine y2 ?_ ?_|refine y4 λh=>?_|refine y3 ?_|exact y5|fail)
   refine CutR.at [0,1] rfl rfl ⟨VLe.refl _,VLe.refl _,VLe.refl _,VLe.refl _,trivial⟩ ⟨rfl,rfl,trivial⟩ rfl
 refine Ex.seq ?_;refine Ex.cutB 0 99 2 [(0,sV s),(2,.s (.ptr (some (0,0)))),(4,.s (.ptr (some (1,0)))),(5,nI ST)] [(0,some {cells:=[.bool false,.int .i64 0,.slc none 0 (some 0)],ty:=99}),(1,some {cells:=[.bool root,.int .i64 (U:Int),.slc none 0 (some 0)],ty:=99})] rfl ?_ ?_
 ·cases root
  ·obtain⟨rfl,hups,h0⟩:=hr2 rfl
   repeat'(first|exact y0|refine y1 ?_|refine y2 ?_ ?_|refine y4 λh=>?_|refine y3 ?_|exact y5|fail)
   refine Ex.inv (σ:=Nat) (λu=>[(5,nI u)]) (λu=>[(0,some {cells:=[.bool false,.int .i64 0,.slc none 0 (some 0)],ty:=99}),(1,some {cells:=[.bool false,.int .i64 (u:Int),.slc none 0 (some 0)],ty:=99})]) (λu=>u<=s.length/\cI s=(u+(cI (s.drop u)).1,(cI (s.drop u)).2)) (λu=>s.length-u) 0 rfl (λ_=>rfl) ⟨Z08 _,an⟩ aV ⟨rfl,rfl,trivial⟩ ?_;rintro u ⟨hu,hup⟩;by_cases hgo:u<s.length/\((s.getD u 0).toNat:Int)=94
   ·obtain⟨hg1,hg2⟩:=hgo
    rw[Em hg1 (sq (n:=94) hg2)] at hup
    repeat'(first|exact y0|refine y1 ?_|refine y2 ?_ ?_|refine y4 λh=>?_|refine y3 ?_|exact y5|fail)
    all_goals try exact y7
    refine LoopR.same (u+1) ⟨aa,?_⟩ aa rfl aV ⟨rfl,rfl,trivial⟩ rfl rfl ac;rw[hup];congr 1;omega
   ·rw[yY (λh=>λe=>hgo ⟨h,by rw[e];rfl⟩)] at hup
    rw[hups] at hup
    obtain rfl:ST=u:=by have:=congrArg Prod.fst hup;simpa using this
    rcases Z0a ST s.length with h|h
    all_goals
     repeat'(first|exact y0|refine y1 ?_|refine y2 ?_ ?_|refine y4 λh=>?_|refine y3 ?_|exact y5|fail)
     refine CutR.at [0,1] rfl rfl ⟨VLe.refl _,VLe.refl _,VLe.refl _,VLe.refl _,trivial⟩ ⟨rfl,rfl,trivial⟩ rfl
  ·obtain⟨rfl,rfl,hne,h0⟩:=hr1 rfl
   repeat'(first|exact y0|refine y1 ?_|refine y2 ?_ ?_|refine y4 λh=>?_|refine y3 ?_|exact y5|fail)
   refine Ex.inv (σ:=Unit) (λ_=>[(5,nI 1)]) (λ_=>[(0,some {cells:=[.bool false,.int .i64 0,.slc none 0 (some 0)],ty:=99}),(1,some {cells:=[.bool true,.int .i64 0,.slc none 0 (some 0)],ty:=99})]) (λ_=>True) (λ_=>0) () rfl (λ_=>rfl) trivial aV ⟨rfl,rfl,trivial⟩ ?_;rintro _ _
   repeat'(first|exact y0|refine y1 ?_|refine y2 ?_ ?_|refine y4 λh=>?_|refine y3 ?_|exact y5|fail)
   refine CutR.at [0,1] rfl rfl ⟨VLe.refl _,VLe.refl _,VLe.refl _,VLe.refl _,trivial⟩ ⟨rfl,rfl,trivial⟩ rfl
 ·have hU:root=true->U=0:=λh=>(hr1 h).1
  have hU2:U<=s.length:=by cases root with
   |true=>rw[hU rfl];exact Z08 _
   |false=>rw[<-(hr2 rfl).1];exact hST
  clear hr1 hr2
  have hsz:(Tryz.prog.types[9]).size=1:=by kernel_rfl
  have hby:(Tryz.prog.types[9]).bytes=16:=by kernel_rfl
  repeat'(first|exact y0|refine y1 ?_|refine y2 ?_ ?_|refine y4 λh=>?_|refine y3 ?_|exact y5|fail)
  refine Ex.subF (L':=[(0,some {cells:=[.bool false,.int .i64 0,.slc none 0 (some 0)],ty:=99}),(1,some {cells:=[.bool root,.int .i64 (U:Int),.row 2 3 0],ty:=99})]) ?_ (Ex.upN (n':=4) aa ?_)
  ·refine SubF.one 1 (bl:={cells:=[.bool root,.int .i64 (U:Int),.slc none 0 (some 0)],ty:=99}) (bl':={cells:=[.bool root,.int .i64 (U:Int),.row 2 3 0],ty:=99}) rfl (λj=>?_) rfl (λφ w b h=>BlAt.cells (bl:={cells:=[.bool root,.int .i64 (U:Int),.slc none 0 (some 0)],ty:=99}) (cs:=[.bool root,.int .i64 (U:Int),.row 2 3 0]) ⟨SLe.refl _,SLe.refl _,SLe.nilrow,trivial⟩ h)
   rcases j with _|_|j<;>rfl
  refine Ex.inv (σ:=List By×Nat) (λx=>[(5,nI x.2)]) (λx=>[(0,some {cells:=[.bool false,.int .i64 0,.slc none 0 (some 0)],ty:=99}),(1,some {cells:=[.bool root,.int .i64 (U:Int),.row 2 3 (x.1).length],ty:=99}),(2,IM 2 (x.1))]) (PI s ST) (λx=>s.length+1-x.2) ([],ST) rfl (λ_=>rfl) ?_ aV ⟨rfl,rfl,trivial⟩ ?_
  ·rcases Z0a ST s.length with h|h
   ·exact .inl ⟨h,Z02 _,λh=>absurd h (Z40 _),rfl,rfl,Z08 _⟩
   ·exact .inr ⟨h,by simp only;omega,Z08 _,.inl ⟨ic.2 h,rfl⟩⟩
  rintro⟨D,i⟩ hI
  rcases hI with ⟨hi,hst,hdot,hD,hsp,hDl⟩|⟨hi1,hi2,hDl,hres⟩
  ·simp only at hi hst hdot hD hsp hDl |-
   repeat'(first|exact y0|refine y1 ?_|refine y2 ?_ ?_|refine y4 λh=>?_|refine y3 ?_|exact y5|fail)
   refine Ex.inv (σ:=Nat) (λk=>[(7,nI k)]) (λ_=>[(0,some {cells:=[.bool false,.int .i64 0,.slc none 0 (some 0)],ty:=99}),(1,some {cells:=[.bool root,.int .i64 (U:Int),.row 2 3 (D).length],ty:=99}),(2,IM 2 (D))]) (λk=>i<=k/\k<=s.length/\∀ j,i<=j->j<k->s.getD j 0≠46) (λk=>s.length-k) i rfl (λ_=>rfl) ⟨Z02 _,aa,λj h1 h2=>by omega⟩ aV ⟨rfl,rfl,SubP.op rfl trivial⟩ ?_;rintro k ⟨hk1,hk2,hk3⟩
   have step:k<s.length-> ¬((s.getD k 0).toNat:Int)=46->∀ j,i<=j->j<k+1->s.getD j 0≠46:=λh1 h2 j h3 h4=>by
    rcases Z0a j k with h|h
    ·exact hk3 j h3 h
    ·obtain rfl:j=k:=aa
     exact FW (n:=46) ac h2
   by_cases hgo:k<s.length/\ ¬((s.getD k 0).toNat:Int)=46
   ·obtain⟨hg1,hg2⟩:=hgo
    repeat'(first|exact y0|refine y1 ?_|refine y2 ?_ ?_|refine y4 λh=>?_|refine y3 ?_|exact y5|fail)
    all_goals try exact y7
    refine LoopR.same (k+1) ⟨aa,aa,step hg1 hg2⟩ aa rfl aV ⟨rfl,rfl,SubP.op rfl trivial⟩ rfl (by unfold IM;generalize List.map _ _=cg;cases cg<;>rfl) ac
   ·have hcut:(k=s.length/\aD 46 (s.drop i)=[((s.take k).drop i)])\/(k<s.length/\((s.getD k 0).toNat:Int)=46/\aD 46 (s.drop i)=((s.take k).drop i)::aD 46 (s.drop (k+1))):=by
     rcases Z0a k s.length with h|h
     ·have h2:((s.getD k 0).toNat:Int)=46:=Z4c.1 λh2=>hgo ⟨h,h2⟩
      exact .inr ⟨h,h2,tu hk1 h hk3 (sq (n:=46) h2)⟩
     ·exact .inl ⟨aa,tr hk1 aa hk3⟩
    have hseg:=jb ((s.take k).drop i) (by rw[Z1u,Z19];omega)
    have hsl:(((s.take k).drop i)).length=k-i:=by rw[Z1u,Z19];omega
    have hrest: ¬s.drop ST=[]:=λe=>by have:=ic.1 e;omega
    have hno:(aT ((s.take k).drop i)=false\/(k+1=s.length/\aD 46 (s.drop i)=((s.take k).drop i)::aD 46 (s.drop (k+1))))->ah s=(z0,false):=λh=>by
     rw[hpar,j9,if_neg hrest,if_neg];rw[hsp]
     rcases h with h|⟨h1,h2⟩
     ·intro h3
      rw[Z1g,Z07] at h3
      rcases hcut with ⟨_,hcu⟩|⟨_,_,hcu⟩<;>rw[hcu] at h3<;>simp only[Z1b,Z2u,Z3m,Z07] at h3
      ·rw[h] at h3;exact absurd h3.2 ac
      ·rw[h] at h3;exact absurd h3.2.1 ac
     ·rw[h2,ic.2 (aa:s.length<=k+1)]
      intro h3;rw[Z1g,Z07] at h3;simp[aD,aT] at h3
    have hi2:(ST<i/\(i:Int)-1=((i-1:Nat):Int))\/i=ST:=by rcases Z0a ST i with h|h<;>omega
    have hkk:k<s.length->((s.getD k 0).toNat:Int)=46:=λh=>Z4c.1 λh2=>hgo ⟨h,h2⟩
    repeat'(first|exact y0|refine y1 ?_|refine y2 ?_ ?_|refine y4 λh=>?_|refine y3 ?_|exact y5|fail)
    all_goals
     first
      |refine RegX.chunkN 4 rfl rfl ?_ (RegX.eqv 64 (congrArg nI (aa:(i:Int)-1=((i-1:Nat):Int))) rfl ?_)
      |skip
     repeat'(first|exact y0|refine y1 ?_|refine y2 ?_ ?_|refine y4 λh=>?_|refine y3 ?_|exact y5|fail)
     cases hS:aT ((s.take k).drop i)<;>rw[hS] at hseg
     ·
      have hz:=hno (.inl hS)
      repeat'(first|exact y0|refine y1 ?_|refine y2 ?_ ?_|refine y4 λh=>?_|refine wX 99 (bo hseg ?_)|refine Fin.le (.inl rfl) rfl (dK hz) rfl|refine y3 ?_|exact y5|fail)
     ·rcases hcut with ⟨hke,hcu⟩|⟨hkl,hkc,hcu⟩
      ·
       first|(exfalso;omega)|skip
       all_goals
        repeat'(first|exact y0|refine y1 ?_|refine y2 ?_ ?_|refine y4 λh=>?_|refine wX 99 (bo hseg ?_)|refine y3 ?_|exact y5|fail)
        refine RegX.apr (i:=2) (g:=3) (m:=D.length) (w:=1) (cs:=D.map S.str) (foot:=[4]) (k:=1) (add:=[.str ((s.take k).drop i)]) rfl rfl an rfl rfl rfl rfl rfl rfl rfl hsz ac rfl ⟨Z02 _,rfl⟩ ac an rfl (by rw[hby];omega) aa rfl ?_
        repeat'(first|exact y0|refine y1 ?_|refine y2 ?_ ?_|refine y4 λh=>?_|refine y3 ?_|exact y5|fail)
        all_goals try exact y7
        refine LoopR.move (D++[((s.take k).drop i)],k+1) (.inr ⟨by simp only;omega,by simp only;omega,by simp only[Z03,Z04,Z0e];omega,.inr ⟨hrest,by simp only[Z1g,hD,Z1b,hS,Z2u];rfl,by rw[hsp,hcu]⟩⟩) (by simp only;omega) [0,1,5,6] rfl ?_ ?_ ?_
        ·repeat' (first|exact VLe.refl _|exact VLe.any _|exact Z0o|refine⟨?_,?_⟩)
        ·refine⟨rfl,?_,MemP.op ?_ trivial⟩
         ·simp only[Z03,Z04,Z0e];rfl
         ·rw[Z0d];rfl
        ·unfold IM;generalize List.map _ _=cg;cases cg<;>rfl
      ·by_cases hlast:k+1=s.length
       ·
        first|(exfalso;omega)|skip
        all_goals
         have hz:=hno (.inr ⟨hlast,hcu⟩)
         repeat'(first|exact y0|refine y1 ?_|refine y2 ?_ ?_|refine y4 λh=>?_|refine wX 99 (bo hseg ?_)|refine Fin.le (.inl rfl) rfl (dK hz) rfl|refine y3 ?_|exact y5|fail)
       ·
        first|(exfalso;omega)|skip
        all_goals
         repeat'(first|exact y0|refine y1 ?_|refine y2 ?_ ?_|refine y4 λh=>?_|refine wX 99 (bo hseg ?_)|refine y3 ?_|exact y5|fail)
         refine RegX.apr (i:=2) (g:=3) (m:=D.length) (w:=1) (cs:=D.map S.str) (foot:=[4]) (k:=1) (add:=[.str ((s.take k).drop i)]) rfl rfl an rfl rfl rfl rfl rfl rfl rfl hsz ac rfl ⟨Z02 _,rfl⟩ ac an rfl (by rw[hby];omega) aa rfl ?_
         repeat'(first|exact y0|refine y1 ?_|refine y2 ?_ ?_|refine y4 λh=>?_|refine y3 ?_|exact y5|fail)
         all_goals try exact y7
         refine LoopR.move (D++[((s.take k).drop i)],k+1) (.inl ⟨by simp only;omega,by simp only;omega,λ_=>by simp only[Z4t];exact hkc,by simp only[Z1g,hD,Z1b,hS,Z2u];rfl,by rw[hsp,hcu];simp only[Z14,Z35],by simp only[Z03,Z04,Z0e];omega⟩) (by simp only;omega) [0,1,5,6] rfl ?_ ?_ ?_
         ·repeat' (first|exact VLe.refl _|exact VLe.any _|exact Z0o|refine⟨?_,?_⟩)
         ·refine⟨rfl,?_,MemP.op ?_ trivial⟩
          ·simp only[Z03,Z04,Z0e];rfl
          ·rw[Z0d];rfl
         ·unfold IM;generalize List.map _ _=cg;cases cg<;>rfl
  ·simp only at hi1 hi2 hDl hres |-
   have hpr:ah s=eQ ⟨root,(U:Int),D⟩:=by
    rw[hpar,j9]
    rcases hres with ⟨h1,h2⟩|⟨h1,h2,h3⟩
    ·rw[if_pos h1,h2]
    ·rw[if_neg h1,h3,h2];try rfl
   have hs:∀ j,j<D.length->(D.getD j []).length<9223372036854775807:=λj hj=>by
    rcases hres with ⟨_,h2⟩|⟨_,h2,_⟩
    ·rw[h2] at hj;simp at hj
    ·have:=lB h2 hj;omega
   have hv:=fA root (U:Int) D hs
   have hend:∀ b,ay ⟨root,(U:Int),D⟩=b->ah s=if b then (⟨root,(U:Int),D⟩,true) else (z0,false):=λb h=>by
    rw[hpr];unfold eQ;rw[h]
   refine Ex.segF ?_
   cases hV:ay ⟨root,(U:Int),D⟩<;>rw[hV] at hv
   ·
    repeat'(first|exact y0|refine y1 ?_|refine y2 ?_ ?_|refine y4 λh=>?_|refine wX 100 (bo hv ?_)|refine Fin.le (.inl rfl) rfl (dK (hend false hV)) rfl|refine y3 ?_|exact y5|fail)
   ·
    repeat'(first|exact y0|refine y1 ?_|refine y2 ?_ ?_|refine y4 λh=>?_|refine wX 100 (bo hv ?_)|refine Fin.le (.inl rfl) rfl (gq (hend true hV)) rfl|refine y3 ?_|exact y5|fail)
end
def cR (l:List By):Prop:=∀ i,i<l.length->(l.getD i []).length<9223372036854775807
theorem rP (br:Bool) (bu:Int) (bs:List By) (rr:Bool) (ru:Int) (rs:List By) (h1s:cR bs) (h2s:cR rs):
 FC Tryz.prog 101 [.agg [.bool br,.int .i64 bu,aE bs],.agg [.bool rr,.int .i64 ru,aE rs]] 0 [] (vR (aq ⟨br,bu,bs⟩ ⟨rr,ru,rs⟩)) 0 []:=by
 have ha:=fA br bu bs h1s;have hv:=fA rr ru rs h2s;refine wW Tryz.func101 ?_
 cases h1:ay ⟨br,bu,bs⟩<;>rw[h1] at ha
 ·
  repeat'(first|exact y0|refine y1 ?_|refine y2 ?_ ?_|refine y4 λh=>?_|refine wX 100 (bo ha ?_)|refine Fin.le (.inl rfl) rfl (dK (by simp[aq,bz,h1])) rfl|refine y3 ?_|exact y5|fail)
 cases br
 ·
  repeat'(first|exact y0|refine y1 ?_|refine y2 ?_ ?_|refine y4 λh=>?_|refine wX 100 (bo ha ?_)|refine Fin.le (.inl rfl) rfl (dK (by simp[aq,bz])) rfl|refine y3 ?_|exact y5|fail)
 have ha1:bz ⟨true,bu,bs⟩=true:=by unfold bz;rw[h1];rfl
 cases h2:ay ⟨rr,ru,rs⟩<;>rw[h2] at hv
 ·
  repeat'(first|exact y0|refine y1 ?_|refine y2 ?_ ?_|refine y4 λh=>?_|(refine wC ?_;first|(refine CallG.is 100 ?_;refine bo ha ?_)|fail)|(refine wC ?_;first|(refine CallG.is 100 ?_;refine bo hv ?_)|fail)|refine Fin.le (.inl rfl) rfl (dK (by simp[aq,h2])) rfl|refine y3 ?_|exact y5|fail)
 obtain⟨a1,a2,a3⟩:=cH ha1;obtain⟨v1,v2,v3,v4,v5,v6⟩:=aJ h2;simp only at a1 a2 a3 v1 v2 v3 v4 v5 v6
 have hby:(Tryz.prog.types[9]).bytes=16:=by kernel_rfl
 have hsz:(Tryz.prog.types[9]).size=1:=by kernel_rfl
 cases rr
 ·by_cases hn:(bs.length:Int)<ru
  ·
   repeat'(first|exact y0|refine y1 ?_|refine y2 ?_ ?_|refine y4 λh=>?_|(refine wC ?_;first|(refine CallG.is 100 ?_;refine bo ha ?_)|fail)|(refine wC ?_;first|(refine CallG.is 100 ?_;refine bo hv ?_)|fail)|refine Fin.le (.inl rfl) rfl (dK (by simp[aq,ha1,h2];omega)) rfl|refine y3 ?_|exact y5|fail)
  ·obtain⟨k,hk⟩:∃ k:Nat,(bs.length:Int)-ru=(k:Int):=⟨((bs.length:Int)-ru).toNat,aa⟩
   by_cases hlong:32<(bs.length:Int)-ru+rs.length
   ·
    repeat'(first|exact y0|refine y1 ?_|refine y2 ?_ ?_|refine y4 λh=>?_|(refine wC ?_;first|(refine CallG.is 100 ?_;refine bo ha ?_)|fail)|(refine wC ?_;first|(refine CallG.is 100 ?_;refine bo hv ?_)|fail)|refine Fin.le (.inl rfl) rfl (dK (by simp[aq,ha1,h2];omega)) rfl|refine y3 ?_|exact y5|fail)
    all_goals trace_state
   ·
    repeat'(first|exact y0|refine y1 ?_|refine y2 ?_ ?_|refine y4 λh=>?_|(refine wC ?_;first|(refine CallG.is 100 ?_;refine bo ha ?_)|fail)|(refine wC ?_;first|(refine CallG.is 100 ?_;refine bo hv ?_)|fail)|refine y3 ?_|exact y5|fail)
    refine RegX.chunkN 8 rfl rfl ?_ (RegX.eqv 54 (congrArg nI hk) rfl ?_)
    ·
     repeat'(first|exact y0|refine y1 ?_|refine y2 ?_ ?_|refine y4 λh=>?_|refine y3 ?_|exact y5|fail)
    have hjp:aq ⟨true,bu,bs⟩ ⟨false,ru,rs⟩=(⟨true,0,bs.take k++rs⟩,true):=by
     simp only[aq,ha1,h2];rw[if_neg an,if_neg an,if_neg aa,hk];rfl
    have hfk:eP (λi=>[S.str (bs.getD i [])]) k=(bs.take k).map S.str:=lR bs aa
    have hkl:(bs.take k).length=k:=by rw[Z19];omega
    cases k with
    |zero=>
     repeat'(first|exact y0|refine y1 ?_|refine y2 ?_ ?_|refine y4 λh=>?_|refine RegX.apNil rfl rfl rfl rfl rfl rfl rfl ?_|refine y3 ?_|exact y5|fail)
     cases rs with
     |nil=>
      refine RegX.apNil rfl rfl rfl rfl rfl rfl rfl ?_
      repeat'(first|exact y0|refine y1 ?_|refine y2 ?_ ?_|refine y4 λh=>?_|refine Fin.le (.inl rfl) rfl (tQ (by rw[hjp];simp)) rfl|refine y3 ?_|exact y5|fail)
     |cons d l=>
      refine RegX.opA [.app (d::l).length ((d::l).map S.str)] rfl rfl ⟨trivial,trivial,rfl,by rw[Z0c],?_,?_,(λ_=>Z1n _),?_,aa⟩ ?_
      ·rw[dq];first|rfl|simp
      ·rw[dq];exact eG _
      ·rw[hby];omega
      repeat'(first|exact y0|refine y1 ?_|refine y2 ?_ ?_|refine y4 λh=>?_|refine Ex.fzC 2 2 (λk=>[.str ((d::l).getD k [])]) 1 rfl ac rfl rfl rfl rfl rfl (λ_ _=>rfl) (λk j x hk hx=>j_ hk hx) rfl ?_|refine Fin.le (.inl rfl) rfl (gq (by rw[hjp];simp)) rfl|refine y3 ?_|exact y5|fail)
    |succ k=>
     generalize hB:bs.take (k+1)=B at*
     repeat'(first|exact y0|refine y1 ?_|refine y2 ?_ ?_|refine y4 λh=>?_|refine y3 ?_|exact y5|fail)
     refine RegX.opA [.app (k+1) (B.map S.str)] rfl rfl ⟨trivial,trivial,rfl,by rw[Z0c],?_,?_,(λ_=>Z1n _),?_,aa⟩ ?_
     ·rw[hfk];first|rfl|simp
     ·rw[hfk];exact eG _
     ·rw[hby];omega
     repeat'(first|exact y0|refine y1 ?_|refine y2 ?_ ?_|refine y4 λh=>?_|refine y3 ?_|exact y5|fail)
     have hmr:(B.map S.str).length=(k+1)*(Tryz.prog.types[9]).size:=by rw[hsz,Z0z,hkl];omega
     refine RegX.opA [.app (B++rs).length ((B++rs).map S.str)] rfl rfl ⟨?_,trivial,rfl,by rw[Z03,hkl],?_,?_,(λh=>nomatch h),?_,?_⟩ ?_
     ·exact Z5a hmr.symm
     ·rw[dq];show _=List.take ((k+1)*(Tryz.prog.types[9]).size) (B.map S.str)++_
      rw[<-hmr,Z1v,Z0d]
     ·rw[dq];exact eG _
     ·rw[Z03,hkl,hby];omega
     ·rw[Z03,hkl];omega
     repeat'(first|exact y0|refine y1 ?_|refine y2 ?_ ?_|refine y4 λh=>?_|refine Ex.fzC 2 2 (λi=>[.str ((B++rs).getD i [])]) 1 rfl ac rfl rfl rfl rfl rfl (λ_ _=>rfl) (λi j x hi hx=>j_ hi hx) rfl ?_|refine Fin.le (.inl rfl) rfl (gq hjp) rfl|refine y3 ?_|exact y5|fail)
 ·
  cases rs with
  |nil=>
   repeat'(first|exact y0|refine y1 ?_|refine y2 ?_ ?_|refine y4 λh=>?_|(refine wC ?_;first|(refine CallG.is 100 ?_;refine bo ha ?_)|fail)|(refine wC ?_;first|(refine CallG.is 100 ?_;refine bo hv ?_)|fail)|refine RegX.apNil rfl rfl rfl rfl rfl rfl rfl ?_|refine Fin.le (.inl rfl) rfl (tQ (by simp[aq,ha1,h2])) rfl|refine y3 ?_|exact y5|fail)
   all_goals trace_state
  |cons d l=>
   repeat'(first|exact y0|refine y1 ?_|refine y2 ?_ ?_|refine y4 λh=>?_|(refine wC ?_;first|(refine CallG.is 100 ?_;refine bo ha ?_)|fail)|(refine wC ?_;first|(refine CallG.is 100 ?_;refine bo hv ?_)|fail)|refine y3 ?_|exact y5|fail)
   refine RegX.opA [.app (d::l).length ((d::l).map S.str)] rfl rfl ⟨trivial,trivial,rfl,by rw[Z0c],?_,?_,(λ_=>Z1n _),?_,aa⟩ ?_
   ·rw[dq];first|rfl|simp
   ·rw[dq];exact eG _
   ·rw[hby];omega
   repeat'(first|exact y0|refine y1 ?_|refine y2 ?_ ?_|refine y4 λh=>?_|refine Ex.fzC 2 2 (λk=>[.str ((d::l).getD k [])]) 1 rfl ac rfl rfl rfl rfl rfl (λ_ _=>rfl) (λk j x hk hx=>j_ hk hx) rfl ?_|refine Fin.le (.inl rfl) rfl (gq (by simp[aq,ha1,h2])) rfl|refine y3 ?_|exact y5|fail)
   all_goals trace_state
theorem m8 (b r:Pth) (h1:cR b.segs) (h2:cR r.segs):FC Tryz.prog 101 [gw b,gw r] 0 [] (vR (aq b r)) 0 []:=rP b.root b.up b.segs r.root r.up r.segs h1 h2
theorem qb (br:Bool) (bu:Int) (bs:List By) (h1s:cR bs):FC Tryz.prog 102 [.agg [.bool br,.int .i64 bu,aE bs]] 0 [] (vR (aO ⟨br,bu,bs⟩)) 0 []:=by
 have ha:=fA br bu bs h1s;refine wW Tryz.func102 ?_
 cases h1:ay ⟨br,bu,bs⟩<;>rw[h1] at ha
 ·
  repeat'(first|exact y0|refine y1 ?_|refine y2 ?_ ?_|refine y4 λh=>?_|refine wX 100 (bo ha ?_)|refine Fin.le (.inl rfl) rfl (dK (by simp[aO,bz,h1])) rfl|refine y3 ?_|exact y5|fail)
 cases br
 ·
  repeat'(first|exact y0|refine y1 ?_|refine y2 ?_ ?_|refine y4 λh=>?_|refine wX 100 (bo ha ?_)|refine Fin.le (.inl rfl) rfl (dK (by simp[aO,bz])) rfl|refine y3 ?_|exact y5|fail)
 have ha1:bz ⟨true,bu,bs⟩=true:=by unfold bz;rw[h1];rfl
 obtain⟨a1,a2,a3⟩:=cH ha1;simp only at a1 a2 a3
 have hby:(Tryz.prog.types[9]).bytes=16:=by kernel_rfl
 by_cases h0:bs.length=0
 ·
  repeat'(first|exact y0|refine y1 ?_|refine y2 ?_ ?_|refine y4 λh=>?_|refine wX 100 (bo ha ?_)|refine Fin.le (.inl rfl) rfl (dK (by simp[aO,ha1];simp_all;done)) rfl|refine y3 ?_|exact y5|fail)
 ·
  obtain⟨k,hk⟩:∃ k:Nat,bs.length=k+1:=⟨bs.length-1,aa⟩
  have hk1:(bs.length:Int)-1=(k:Int):=aa
  have hpp:aO ⟨true,bu,bs⟩=(⟨true,0,bs.take k⟩,true):=by
   unfold aO;rw[if_neg]
   ·simp[hk]
   ·simp[ha1,h0]
  have hfk:eP (λi=>[S.str (bs.getD i [])]) k=(bs.take k).map S.str:=lR bs aa
  have hkl:(bs.take k).length=k:=by rw[Z19];omega
  repeat'(first|exact y0|refine y1 ?_|refine y2 ?_ ?_|refine y4 λh=>?_|refine wX 100 (bo ha ?_)|refine y3 ?_|exact y5|fail)
  refine RegX.chunkN 6 rfl rfl ?_ (RegX.eqv 24 (congrArg nI hk1) rfl ?_)
  ·
   repeat'(first|exact y0|refine y1 ?_|refine y2 ?_ ?_|refine y4 λh=>?_|refine y3 ?_|exact y5|fail)
  cases k with
  |zero=>
   repeat'(first|exact y0|refine y1 ?_|refine y2 ?_ ?_|refine y4 λh=>?_|refine RegX.apNil rfl rfl rfl rfl rfl rfl rfl ?_|refine Fin.le (.inl rfl) rfl (tQ (by rw[hpp];simp)) rfl|refine y3 ?_|exact y5|fail)
  |succ k=>
   generalize hB:bs.take (k+1)=B at*
   repeat'(first|exact y0|refine y1 ?_|refine y2 ?_ ?_|refine y4 λh=>?_|refine y3 ?_|exact y5|fail)
   refine RegX.opA [.app B.length (B.map S.str)] rfl rfl ⟨trivial,trivial,rfl,by rw[Z0c,hkl],?_,?_,(λ_=>Z1n _),?_,?_⟩ ?_
   ·rw[hfk];first|rfl|simp
   ·rw[hfk];exact eG _
   ·rw[hby];omega
   ·omega
   repeat'(first|exact y0|refine y1 ?_|refine y2 ?_ ?_|refine y4 λh=>?_|refine Ex.fzC 1 2 (λi=>[.str (B.getD i [])]) 1 rfl ac rfl rfl rfl rfl rfl (λ_ _=>rfl) (λi j x hi hx=>j_ hi hx) rfl ?_|refine Fin.le (.inl rfl) rfl (gq hpp) rfl|refine y3 ?_|exact y5|fail)
theorem zy (p:Pth) (h1:cR p.segs):FC Tryz.prog 102 [gw p] 0 [] (vR (aO p)) 0 []:=qb p.root p.up p.segs h1
end Go.Proofs.YtegjgpldfgjoiaaGreatDoor
