import Derived.Test.YtegjgpldfgjoiaaGreatDoorCnB29
import Derived.Test.YtegjgpldfgjoiaaGreatDoorCnB15
import Derived.Test.YtegjgpldfgjoiaaGreatDoorCnB22
import Derived.Test.YtegjgpldfgjoiaaGreatDoorCnB13
set_option linter.unusedSimpArgs false
set_option linter.unusedVariables false
namespace Go.Proofs.YtegjgpldfgjoiaaGreatDoor
open Go Ab
set_option maxRecDepth 100000
set_option maxHeartbeats 4000000
abbrev sgB (g:Nat) (D:List By):Option Bl:=opB 9 (g+1) 1 (D.map S.str)
theorem B3 {D:List By} {k j:Nat} {x:S} (hk:k<D.length) (h:([S.str (D.getD k [])])[j]? =some x):(D.map S.str)[k*1+j]? =some x/\aY x=true:=by
 cases j with
 |succ j=>simp at h
 |zero=>
  simp only[List.getElem?_cons_zero,Option.some.injEq] at h;subst h;rw[Nat.mul_one,Nat.add_zero,List.getElem?_map,List.getElem?_eq_getElem hk,List.getD_eq_getElem?_getD,List.getElem?_eq_getElem hk];exact⟨rfl,rfl⟩
theorem fB {s:By} {i:Nat}:s.drop i=[]↔s.length<=i:=by simp
theorem BV {s:By} {i:Nat} (h:i<s.length) (hc:s.getD i 0=94):bJ (s.drop i)=((bJ (s.drop (i+1))).1+1,(bJ (s.drop (i+1))).2):=by
 rw[List.drop_eq_getElem_cons h]
 have:s[i]=94:=by rw[List.getD_eq_getElem?_getD,List.getElem?_eq_getElem h] at hc;exact hc
 rw[this];simp[bJ]
theorem vF {s:By} {i:Nat} (hc:∀ _:i<s.length,s.getD i 0≠94):bJ (s.drop i)=(0,s.drop i):=by
 rcases Nat.lt_or_ge i s.length with h|h
 ·rw[List.drop_eq_getElem_cons h]
  have: ¬s[i]=94:=by have:=hc h;rw[List.getD_eq_getElem?_getD,List.getElem?_eq_getElem h] at this;exact this
  simp[bJ,this]
 ·rw[List.drop_eq_nil_of_le h];rfl
theorem jC {s:By} {i j:Nat}:(s.drop i).getD j 0=s.getD (i+j) 0:=by
 rw[List.getD_eq_getElem?_getD,List.getD_eq_getElem?_getD,List.getElem?_drop]
theorem Dq {c:UInt8} {n:Nat} (hn:n<256) (h: ¬(c.toNat:Int)=(n:Int)):c≠UInt8.ofNat n:=fun e=>h (by rw[e];simp;omega)
theorem px {c:UInt8} {n:Nat} (h:(c.toNat:Int)=(n:Int)):c=UInt8.ofNat n:=by
 have h:c.toNat=n:=by omega
 rw[<-h];simp
theorem pT {s:By} {i k:Nat} (hik:i<=k) (hk:k=s.length) (h:∀ j,i<=j->j<k->s.getD j 0≠46):aw 46 (s.drop i)=[(s.take k).drop i]:=by
 subst hk;rw[List.take_length]
 refine jk fun j hj=>?_
 rw[jC];rw[List.length_drop] at hj;exact h _ (by omega) (by omega)
theorem pU {s:By} {i k:Nat} (hik:i<=k) (hk:k<s.length) (h:∀ j,i<=j->j<k->s.getD j 0≠46) (hc:s.getD k 0=46):aw 46 (s.drop i)=(s.take k).drop i::aw 46 (s.drop (k+1)):=by
 rw[mP (m:=k-i) (by rw[List.length_drop];omega) (fun j hj=>by rw[jC];exact h _ (by omega) (by omega)) (by rw[jC,show i+(k-i)=k by omega];exact hc)];rw[List.drop_drop,show i+(k-i+1)=k+1 by omega];congr 1;rw[List.drop_take]
def PI (s:By) (st:Nat) (x:List By×Nat):Prop:=
 (x.2<s.length/\st<=x.2/\(st<x.2->((s.getD (x.2-1) 0).toNat:Int)=46)/\x.1.all aG=true/\aw 46 (s.drop st)=x.1++aw 46 (s.drop x.2)/\x.1.length<=x.2)\/
 (s.length<=x.2/\x.2<=s.length+1/\x.1.length<=s.length+1/\((s.drop st=[]/\x.1=[])\/(s.drop st≠[]/\x.1.all aG=true/\aw 46 (s.drop st)=x.1)))
section
variable {P:Program} {b:Nat} {env:List V} {n:Nat} {R:Post} {c:Code}
theorem Ex.segF {b0:Option Bl} {x y:S} {ty:Nat} {D:List By} (k:Ex P b c env n [(0,b0),(1,some {cells:=[x,y,aJ D],ty:=ty})] R):Ex P b c env n [(0,b0),(1,some {cells:=[x,y,.row 2 3 D.length],ty:=ty}),(2,sgB 2 D)] R:=by
 cases D with
 |nil=>
  refine Ex.subF ?_ k;refine SubF.one 1 (bl:={cells:=[x,y,.row 2 3 0],ty:=ty}) (bl':={cells:=[x,y,aJ []],ty:=ty}) rfl (fun j=>?_) rfl (fun φ w b h=>BlAt.cells (bl:={cells:=[x,y,.row 2 3 0],ty:=ty}) (cs:=[x,y,aJ []]) ⟨SLe.refl _,SLe.refl _,SLe.row0,trivial⟩ h)
  rcases j with _|_|_|j<;>rfl
 |cons d l=>
  refine Ex.fzC 1 2 (fun k=>[.str ((d::l).getD k [])]) 1 (s:=.row 2 3 (d::l).length) (i:=2) (N:=(d::l).length) (bl:={cells:=(d::l).map S.str,ty:=9,more:=true,sym:=true,flat:=true,gh:=some (3,1)}) (blj:={cells:=[x,y,.row 2 3 (d::l).length],ty:=ty}) rfl (by decide) rfl rfl rfl rfl rfl (fun _ _=>rfl) (fun k j x hk hx=>B3 hk hx) rfl ?_;refine Ex.subF (fun j bl h=>⟨bl,?_,rfl,fun _ _ _ h=>h⟩) k
  rcases j with _|_|_|j
  ·exact h
  ·exact h
  ·cases h
  ·cases h
end
theorem sO (s:By):∃ (root:Bool) (U ST:Nat),aq s=er root U (s.drop ST)/\ST<=s.length/\(root=true->U=0/\ST=1/\s≠[]/\((s.getD 0 0).toNat:Int)=92)/\(root=false->ST=U/\bJ s=(U,s.drop U)/\(0<s.length-> ¬((s.getD 0 0).toNat:Int)=92)):=by
 rcases El s with ⟨e1,e2⟩|⟨e1,e2⟩
 ·refine⟨true,0,1,by unfold aq;rw[e1];rfl,?_,fun _=>⟨rfl,rfl,fun e=>by rw[e] at e2;simp at e2,by rw[e2];rfl⟩,fun h=>by cases h⟩
  rw[e2];simp
 ·have h1:=nN s
  have h2:=pL s
  have h3:bJ s=((bJ s).1,s.drop (bJ s).1):=by
   have key:∀ (u:Nat) (r:By),s=List.replicate u 94++r->s.drop u=r:=fun u r h=>by rw[h];simp
   rw[key _ _ h1]
  refine⟨false,(bJ s).1,(bJ s).1,?_,h2.1,(fun h=>(by cases h)),fun _=>⟨rfl,h3,fun hp e=>?_⟩⟩
  ·unfold aq;rw[e1];simp only[Bool.false_eq_true,if_false]
   conv=>lhs;rw[h3]
  ·cases s with
   |nil=>simp at hp
   |cons b l=>exact e2 (by simpa using px (n:=92) e)
theorem yk (s:By) (hl:s.length<=4398046511104):FC Tryz.prog 51 [sV s] 0 [] (psV (aq s)) 0 []:=by
 obtain⟨root,U,ST,hpar,hST,hr1,hr2⟩:=sO s;refine FC.walk (by kernel_rfl) Tryz.func51 rfl rfl ?_;refine Ex.seq ?_;refine Ex.reg hm ?_;refine RegX.chunk rfl ?_ ?_
 ·repeat' (first|exact True.intro|refine And.intro ?_ ?_)
 refine RegX.nilF ?_;refine Then.normal ?_;refine Ex.seq ?_;refine Ex.reg hm ?_;refine RegX.chunk rfl ?_ ?_
 ·repeat' (first|exact True.intro|refine And.intro ?_ ?_)
 refine RegX.nilF ?_;refine Then.normal ?_;refine Ex.seq ?_;refine Ex.reg hm ?_;refine RegX.chunk rfl ?_ ?_
 ·repeat' (first|exact True.intro|refine And.intro ?_ ?_)
 refine RegX.nilF ?_;refine Then.normal ?_;refine Ex.seq ?_;refine Ex.cutS 3 99 2 [(0,sV s),(2,.s (.ptr (some (0,0)))),(4,.s (.ptr (some (1,0)))),(5,nI (if root then 1 else 0))] [(0,some {cells:=[.bool false,.int .i64 0,.slc none 0 (some 0)],ty:=99}),(1,some {cells:=[.bool root,.int .i64 0,.slc none 0 (some 0)],ty:=99})] rfl ?_ ?_
 ·cases root
  ·obtain⟨rfl,hups,h0⟩:=hr2 rfl
   by_cases hne:s=[]
   ·
    repeat'(first|((with_reducible refine BrG.neS (fun h=>?_) (fun h=>?_))<;>try (exact absurd hne h))|exact y0|refine y1 ?_|refine y2 ?_ ?_|(refine y8 ?_ ?_<;>intro h<;>try exact y6)|refine y3 ?_|refine y7 ?_ ?_|refine y4 ?_|(refine y9 ?_ ?_<;>intro h)|exact y5|fail)
    refine CutR.at [0,1] rfl rfl ⟨VLe.refl _,VLe.refl _,VLe.refl _,VLe.refl _,trivial⟩ ⟨rfl,rfl,trivial⟩ rfl
   ·have h0:=h0 (List.length_pos_iff.2 hne)
    have hpos:=List.length_pos_iff.2 hne
    repeat'(first|((with_reducible refine BrG.neS (fun h=>?_) (fun h=>?_))<;>try (exact absurd h hne))|exact y0|refine y1 ?_|refine y2 ?_ ?_|(refine y8 ?_ ?_<;>intro h<;>try exact y6)|refine y3 ?_|refine y7 ?_ ?_|refine y4 ?_|(refine y9 ?_ ?_<;>intro h)|exact y5|fail)
    refine CutR.at [0,1] rfl rfl ⟨VLe.refl _,VLe.refl _,VLe.refl _,VLe.refl _,trivial⟩ ⟨rfl,rfl,trivial⟩ rfl
  ·obtain⟨rfl,rfl,hne,h0⟩:=hr1 rfl
   have hpos:=List.length_pos_iff.2 hne
   repeat'(first|((with_reducible refine BrG.neS (fun h=>?_) (fun h=>?_))<;>try (exact absurd h hne))|exact y0|refine y1 ?_|refine y2 ?_ ?_|(refine y8 ?_ ?_<;>intro h<;>try exact y6)|refine y3 ?_|refine y7 ?_ ?_|refine y4 ?_|(refine y9 ?_ ?_<;>intro h)|exact y5|fail)
   refine CutR.at [0,1] rfl rfl ⟨VLe.refl _,VLe.refl _,VLe.refl _,VLe.refl _,trivial⟩ ⟨rfl,rfl,trivial⟩ rfl
 refine Ex.seq ?_;refine Ex.cutB 0 99 2 [(0,sV s),(2,.s (.ptr (some (0,0)))),(4,.s (.ptr (some (1,0)))),(5,nI ST)] [(0,some {cells:=[.bool false,.int .i64 0,.slc none 0 (some 0)],ty:=99}),(1,some {cells:=[.bool root,.int .i64 (U:Int),.slc none 0 (some 0)],ty:=99})] rfl ?_ ?_
 ·cases root
  ·obtain⟨rfl,hups,h0⟩:=hr2 rfl
   repeat'(first|exact y0|refine y1 ?_|refine y2 ?_ ?_|(refine y8 ?_ ?_<;>intro h<;>try exact y6)|refine y3 ?_|refine y7 ?_ ?_|refine y4 ?_|(refine y9 ?_ ?_<;>intro h)|exact y5|fail)
   refine Ex.inv (σ:=Nat) (fun u=>[(5,nI u)]) (fun u=>[(0,some {cells:=[.bool false,.int .i64 0,.slc none 0 (some 0)],ty:=99}),(1,some {cells:=[.bool false,.int .i64 (u:Int),.slc none 0 (some 0)],ty:=99})]) (fun u=>u<=s.length/\bJ s=(u+(bJ (s.drop u)).1,(bJ (s.drop u)).2)) (fun u=>s.length-u) 0 rfl (fun _=>rfl) ⟨Nat.zero_le _,by simp⟩ ⟨VLe.refl _,trivial⟩ ⟨rfl,rfl,trivial⟩ ?_;rintro u ⟨hu,hup⟩;by_cases hgo:u<s.length/\((s.getD u 0).toNat:Int)=94
   ·obtain⟨hg1,hg2⟩:=hgo
    rw[BV hg1 (px (n:=94) hg2)] at hup
    repeat'(first|exact y0|refine y1 ?_|refine y2 ?_ ?_|(refine y8 ?_ ?_<;>intro h<;>try exact y6)|refine y3 ?_|refine y7 ?_ ?_|refine y4 ?_|(refine y9 ?_ ?_<;>intro h)|exact y5|fail)
    all_goals try first
     |exact aa (by omega) (by omega)
    refine LoopR.same (u+1) ⟨by omega,?_⟩ (by omega) rfl ⟨VLe.refl _,trivial⟩ ⟨rfl,rfl,trivial⟩ rfl rfl (by decide);rw[hup];congr 1;omega
   ·rw[vF (fun h=>fun e=>hgo ⟨h,by rw[e];rfl⟩)] at hup
    rw[hups] at hup
    obtain rfl:ST=u:=by have:=congrArg Prod.fst hup;simpa using this
    rcases Nat.lt_or_ge ST s.length with h|h
    all_goals
     repeat'(first|exact y0|refine y1 ?_|refine y2 ?_ ?_|(refine y8 ?_ ?_<;>intro h<;>try exact y6)|refine y3 ?_|refine y7 ?_ ?_|refine y4 ?_|(refine y9 ?_ ?_<;>intro h)|exact y5|fail)
     refine CutR.at [0,1] rfl rfl ⟨VLe.refl _,VLe.refl _,VLe.refl _,VLe.refl _,trivial⟩ ⟨rfl,rfl,trivial⟩ rfl
  ·obtain⟨rfl,rfl,hne,h0⟩:=hr1 rfl
   repeat'(first|exact y0|refine y1 ?_|refine y2 ?_ ?_|(refine y8 ?_ ?_<;>intro h<;>try exact y6)|refine y3 ?_|refine y7 ?_ ?_|refine y4 ?_|(refine y9 ?_ ?_<;>intro h)|exact y5|fail)
   refine Ex.inv (σ:=Unit) (fun _=>[(5,nI 1)]) (fun _=>[(0,some {cells:=[.bool false,.int .i64 0,.slc none 0 (some 0)],ty:=99}),(1,some {cells:=[.bool true,.int .i64 0,.slc none 0 (some 0)],ty:=99})]) (fun _=>True) (fun _=>0) () rfl (fun _=>rfl) trivial ⟨VLe.refl _,trivial⟩ ⟨rfl,rfl,trivial⟩ ?_;rintro _ _
   repeat'(first|exact y0|refine y1 ?_|refine y2 ?_ ?_|(refine y8 ?_ ?_<;>intro h<;>try exact y6)|refine y3 ?_|refine y7 ?_ ?_|refine y4 ?_|(refine y9 ?_ ?_<;>intro h)|exact y5|fail)
   refine CutR.at [0,1] rfl rfl ⟨VLe.refl _,VLe.refl _,VLe.refl _,VLe.refl _,trivial⟩ ⟨rfl,rfl,trivial⟩ rfl
 ·have hU:root=true->U=0:=fun h=>(hr1 h).1
  have hU2:U<=s.length:=by cases root with
   |true=>rw[hU rfl];exact Nat.zero_le _
   |false=>rw[<-(hr2 rfl).1];exact hST
  clear hr1 hr2
  have hsz:(Tryz.prog.types[9]).size=1:=by kernel_rfl
  have hby:(Tryz.prog.types[9]).bytes=16:=by kernel_rfl
  repeat'(first|exact y0|refine y1 ?_|refine y2 ?_ ?_|(refine y8 ?_ ?_<;>intro h<;>try exact y6)|refine y3 ?_|refine y7 ?_ ?_|refine y4 ?_|(refine y9 ?_ ?_<;>intro h)|exact y5|fail)
  refine Ex.subF (L':=[(0,some {cells:=[.bool false,.int .i64 0,.slc none 0 (some 0)],ty:=99}),(1,some {cells:=[.bool root,.int .i64 (U:Int),.row 2 3 0],ty:=99})]) ?_ (Ex.upN (n':=4) (by omega) ?_)
  ·refine SubF.one 1 (bl:={cells:=[.bool root,.int .i64 (U:Int),.slc none 0 (some 0)],ty:=99}) (bl':={cells:=[.bool root,.int .i64 (U:Int),.row 2 3 0],ty:=99}) rfl (fun j=>?_) rfl (fun φ w b h=>BlAt.cells (bl:={cells:=[.bool root,.int .i64 (U:Int),.slc none 0 (some 0)],ty:=99}) (cs:=[.bool root,.int .i64 (U:Int),.row 2 3 0]) ⟨SLe.refl _,SLe.refl _,SLe.nilrow,trivial⟩ h)
   rcases j with _|_|j<;>rfl
  refine Ex.inv (σ:=List By×Nat) (fun x=>[(5,nI x.2)]) (fun x=>[(0,some {cells:=[.bool false,.int .i64 0,.slc none 0 (some 0)],ty:=99}),(1,some {cells:=[.bool root,.int .i64 (U:Int),.row 2 3 (x.1).length],ty:=99}),(2,sgB 2 (x.1))]) (PI s ST) (fun x=>s.length+1-x.2) ([],ST) rfl (fun _=>rfl) ?_ ⟨VLe.refl _,trivial⟩ ⟨rfl,rfl,trivial⟩ ?_
  ·rcases Nat.lt_or_ge ST s.length with h|h
   ·exact .inl ⟨h,Nat.le_refl _,fun h=>absurd h (Nat.lt_irrefl _),rfl,rfl,Nat.zero_le _⟩
   ·exact .inr ⟨h,by simp only;omega,Nat.zero_le _,.inl ⟨fB.2 h,rfl⟩⟩
  rintro⟨D,i⟩ hI
  rcases hI with ⟨hi,hst,hdot,hD,hsp,hDl⟩|⟨hi1,hi2,hDl,hres⟩
  ·simp only at hi hst hdot hD hsp hDl |-
   repeat'(first|exact y0|refine y1 ?_|refine y2 ?_ ?_|(refine y8 ?_ ?_<;>intro h<;>try exact y6)|refine y3 ?_|refine y7 ?_ ?_|refine y4 ?_|(refine y9 ?_ ?_<;>intro h)|exact y5|fail)
   refine Ex.inv (σ:=Nat) (fun k=>[(7,nI k)]) (fun _=>[(0,some {cells:=[.bool false,.int .i64 0,.slc none 0 (some 0)],ty:=99}),(1,some {cells:=[.bool root,.int .i64 (U:Int),.row 2 3 (D).length],ty:=99}),(2,sgB 2 (D))]) (fun k=>i<=k/\k<=s.length/\∀ j,i<=j->j<k->s.getD j 0≠46) (fun k=>s.length-k) i rfl (fun _=>rfl) ⟨Nat.le_refl _,by omega,fun j h1 h2=>by omega⟩ ⟨VLe.refl _,trivial⟩ ⟨rfl,rfl,SubP.op rfl trivial⟩ ?_;rintro k ⟨hk1,hk2,hk3⟩
   have step:k<s.length-> ¬((s.getD k 0).toNat:Int)=46->∀ j,i<=j->j<k+1->s.getD j 0≠46:=fun h1 h2 j h3 h4=>by
    rcases Nat.lt_or_ge j k with h|h
    ·exact hk3 j h3 h
    ·obtain rfl:j=k:=by omega
     exact Dq (n:=46) (by decide) h2
   by_cases hgo:k<s.length/\ ¬((s.getD k 0).toNat:Int)=46
   ·obtain⟨hg1,hg2⟩:=hgo
    repeat'(first|exact y0|refine y1 ?_|refine y2 ?_ ?_|(refine y8 ?_ ?_<;>intro h<;>try exact y6)|refine y3 ?_|refine y7 ?_ ?_|refine y4 ?_|(refine y9 ?_ ?_<;>intro h)|exact y5|fail)
    all_goals try first
     |exact aa (by omega) (by omega)
    refine LoopR.same (k+1) ⟨by omega,by omega,step hg1 hg2⟩ (by omega) rfl ⟨VLe.refl _,trivial⟩ ⟨rfl,rfl,SubP.op rfl trivial⟩ rfl (by unfold sgB;generalize List.map _ _=cg;cases cg<;>rfl) (by decide)
   ·have hcut:(k=s.length/\aw 46 (s.drop i)=[((s.take k).drop i)])\/(k<s.length/\((s.getD k 0).toNat:Int)=46/\aw 46 (s.drop i)=((s.take k).drop i)::aw 46 (s.drop (k+1))):=by
     rcases Nat.lt_or_ge k s.length with h|h
     ·have h2:((s.getD k 0).toNat:Int)=46:=Classical.not_not.1 fun h2=>hgo ⟨h,h2⟩
      exact .inr ⟨h,h2,pU hk1 h hk3 (px (n:=46) h2)⟩
     ·exact .inl ⟨by omega,pT hk1 (by omega) hk3⟩
    have hseg:=jm ((s.take k).drop i) (by rw[List.length_drop,List.length_take];omega)
    have hsl:(((s.take k).drop i)).length=k-i:=by rw[List.length_drop,List.length_take];omega
    have hrest: ¬s.drop ST=[]:=fun e=>by have:=fB.1 e;omega
    have hno:(aG ((s.take k).drop i)=false\/(k+1=s.length/\aw 46 (s.drop i)=((s.take k).drop i)::aw 46 (s.drop (k+1))))->aq s=(z0,false):=fun h=>by
     rw[hpar,iz,if_neg hrest,if_neg];rw[hsp]
     rcases h with h|⟨h1,h2⟩
     ·intro h3
      rw[List.all_append,Bool.and_eq_true] at h3
      rcases hcut with ⟨_,hcu⟩|⟨_,_,hcu⟩<;>rw[hcu] at h3<;>simp only[List.all_cons,List.all_nil,Bool.and_true,Bool.and_eq_true] at h3
      ·rw[h] at h3;exact absurd h3.2 (by decide)
      ·rw[h] at h3;exact absurd h3.2.1 (by decide)
     ·rw[h2,fB.2 (by omega:s.length<=k+1)]
      intro h3;rw[List.all_append,Bool.and_eq_true] at h3;simp[aw,aG] at h3
    have hi2:(ST<i/\(i:Int)-1=((i-1:Nat):Int))\/i=ST:=by rcases Nat.lt_or_ge ST i with h|h<;>omega
    have hkk:k<s.length->((s.getD k 0).toNat:Int)=46:=fun h=>Classical.not_not.1 fun h2=>hgo ⟨h,h2⟩
    repeat'(first|exact y0|refine y1 ?_|refine y2 ?_ ?_|(refine y8 ?_ ?_<;>intro h<;>try(exact y6))|refine y3 ?_|refine y7 ?_ ?_|refine y4 ?_|(refine y9 ?_ ?_<;>intro h)|exact y5|fail)
    all_goals
     first
      |refine RegX.chunkN 4 rfl rfl ?_ (RegX.eqv 64 (congrArg nI (by omega:(i:Int)-1=((i-1:Nat):Int))) rfl ?_)
      |skip
     repeat'(first|exact y0|refine y1 ?_|refine y2 ?_ ?_|(refine y8 ?_ ?_<;>intro h<;>try(exact y6))|refine y3 ?_|refine y7 ?_ ?_|refine y4 ?_|(refine y9 ?_ ?_<;>intro h)|exact y5|fail)
     cases hS:aG ((s.take k).drop i)<;>rw[hS] at hseg
     ·
      have hz:=hno (.inl hS)
      repeat'(first|exact y0|refine y1 ?_|refine y2 ?_ ?_|(refine y8 ?_ ?_<;>intro h<;>try(exact y6))|(refine wC ?_;first|refine wF 99 (bo hseg ?_))|refine Fin.le (.inl rfl) rfl (fH hz) rfl|refine y3 ?_|refine y7 ?_ ?_|refine y4 ?_|(refine y9 ?_ ?_<;>intro h)|exact y5|fail)
     ·rcases hcut with ⟨hke,hcu⟩|⟨hkl,hkc,hcu⟩
      ·
       first|(exfalso;omega)|skip
       all_goals
        repeat'(first|exact y0|refine y1 ?_|refine y2 ?_ ?_|(refine y8 ?_ ?_<;>intro h<;>try(exact y6))|(refine wC ?_;first|refine wF 99 (bo hseg ?_))|refine y3 ?_|refine y7 ?_ ?_|refine y4 ?_|(refine y9 ?_ ?_<;>intro h)|exact y5|fail)
        refine RegX.apr (i:=2) (g:=3) (m:=D.length) (w:=1) (cs:=D.map S.str) (foot:=[4]) (k:=1) (add:=[.str ((s.take k).drop i)]) rfl rfl (by simp) rfl rfl rfl rfl rfl rfl rfl hsz (by decide) rfl ⟨Nat.le_refl _,rfl⟩ (by decide) (by simp) rfl (by rw[hby];omega) (by omega) rfl ?_
        repeat'(first|exact y0|refine y1 ?_|refine y2 ?_ ?_|(refine y8 ?_ ?_<;>intro h<;>try(exact y6))|refine y3 ?_|refine y7 ?_ ?_|refine y4 ?_|(refine y9 ?_ ?_<;>intro h)|exact y5|fail)
        all_goals try first
         |exact aa (by omega) (by omega)
        refine LoopR.move (D++[((s.take k).drop i)],k+1) (.inr ⟨by simp only;omega,by simp only;omega,by simp only[List.length_append,List.length_cons,List.length_nil];omega,.inr ⟨hrest,by simp only[List.all_append,hD,List.all_cons,hS,List.all_nil];rfl,by rw[hsp,hcu]⟩⟩) (by simp only;omega) [0,1,5,6] rfl ?_ ?_ ?_
        ·repeat' (first|exact VLe.refl _|exact VLe.any _|exact True.intro|refine⟨?_,?_⟩)
        ·refine⟨rfl,?_,MemP.op ?_ trivial⟩
         ·simp only[List.length_append,List.length_cons,List.length_nil];rfl
         ·rw[List.map_append];rfl
        ·unfold sgB;generalize List.map _ _=cg;cases cg<;>rfl
      ·by_cases hlast:k+1=s.length
       ·
        first|(exfalso;omega)|skip
        all_goals
         have hz:=hno (.inr ⟨hlast,hcu⟩)
         repeat'(first|exact y0|refine y1 ?_|refine y2 ?_ ?_|(refine y8 ?_ ?_<;>intro h<;>try(exact y6))|(refine wC ?_;first|refine wF 99 (bo hseg ?_))|refine Fin.le (.inl rfl) rfl (fH hz) rfl|refine y3 ?_|refine y7 ?_ ?_|refine y4 ?_|(refine y9 ?_ ?_<;>intro h)|exact y5|fail)
       ·
        first|(exfalso;omega)|skip
        all_goals
         repeat'(first|exact y0|refine y1 ?_|refine y2 ?_ ?_|(refine y8 ?_ ?_<;>intro h<;>try(exact y6))|(refine wC ?_;first|refine wF 99 (bo hseg ?_))|refine y3 ?_|refine y7 ?_ ?_|refine y4 ?_|(refine y9 ?_ ?_<;>intro h)|exact y5|fail)
         refine RegX.apr (i:=2) (g:=3) (m:=D.length) (w:=1) (cs:=D.map S.str) (foot:=[4]) (k:=1) (add:=[.str ((s.take k).drop i)]) rfl rfl (by simp) rfl rfl rfl rfl rfl rfl rfl hsz (by decide) rfl ⟨Nat.le_refl _,rfl⟩ (by decide) (by simp) rfl (by rw[hby];omega) (by omega) rfl ?_
         repeat'(first|exact y0|refine y1 ?_|refine y2 ?_ ?_|(refine y8 ?_ ?_<;>intro h<;>try(exact y6))|refine y3 ?_|refine y7 ?_ ?_|refine y4 ?_|(refine y9 ?_ ?_<;>intro h)|exact y5|fail)
         all_goals try first
          |exact aa (by omega) (by omega)
         refine LoopR.move (D++[((s.take k).drop i)],k+1) (.inl ⟨by simp only;omega,by simp only;omega,fun _=>by simp only[Nat.add_sub_cancel];exact hkc,by simp only[List.all_append,hD,List.all_cons,hS,List.all_nil];rfl,by rw[hsp,hcu];simp only[List.append_assoc,List.singleton_append],by simp only[List.length_append,List.length_cons,List.length_nil];omega⟩) (by simp only;omega) [0,1,5,6] rfl ?_ ?_ ?_
         ·repeat' (first|exact VLe.refl _|exact VLe.any _|exact True.intro|refine⟨?_,?_⟩)
         ·refine⟨rfl,?_,MemP.op ?_ trivial⟩
          ·simp only[List.length_append,List.length_cons,List.length_nil];rfl
          ·rw[List.map_append];rfl
         ·unfold sgB;generalize List.map _ _=cg;cases cg<;>rfl
  ·simp only at hi1 hi2 hDl hres |-
   have hpr:aq s=e8 ⟨root,(U:Int),D⟩:=by
    rw[hpar,iz]
    rcases hres with ⟨h1,h2⟩|⟨h1,h2,h3⟩
    ·rw[if_pos h1,h2]
    ·rw[if_neg h1,h3,h2];try rfl
   have hs:∀ j,j<D.length->(D.getD j []).length<9223372036854775807:=fun j hj=>by
    rcases hres with ⟨_,h2⟩|⟨_,h2,_⟩
    ·rw[h2] at hj;simp at hj
    ·have:=jn h2 hj;omega
   have hv:=pK root (U:Int) D hs
   have hend:∀ b,aC ⟨root,(U:Int),D⟩=b->aq s=if b then (⟨root,(U:Int),D⟩,true) else (z0,false):=fun b h=>by
    rw[hpr];unfold e8;rw[h]
   refine Ex.segF ?_
   cases hV:aC ⟨root,(U:Int),D⟩<;>rw[hV] at hv
   ·
    repeat'(first|exact y0|refine y1 ?_|refine y2 ?_ ?_|(refine y8 ?_ ?_<;>intro h<;>try(exact y6))|(refine wC ?_;first|refine wF 100 (bo hv ?_))|refine Fin.le (.inl rfl) rfl (fH (hend false hV)) rfl|refine y3 ?_|refine y7 ?_ ?_|refine y4 ?_|(refine y9 ?_ ?_<;>intro h)|exact y5|fail)
   ·
    repeat'(first|exact y0|refine y1 ?_|refine y2 ?_ ?_|(refine y8 ?_ ?_<;>intro h<;>try(exact y6))|(refine wC ?_;first|refine wF 100 (bo hv ?_))|refine Fin.le (.inl rfl) rfl (js (hend true hV)) rfl|refine y3 ?_|refine y7 ?_ ?_|refine y4 ?_|(refine y9 ?_ ?_<;>intro h)|exact y5|fail)
set_option maxRecDepth 100000
set_option maxHeartbeats 2000000
def Gk (l:List By):Prop:=∀ i,i<l.length->(l.getD i []).length<9223372036854775807
set_option maxRecDepth 100000
set_option maxHeartbeats 2000000
abbrev Rw:=Int×By×By
def rwC (r:Rw):List S:=[.int .i64 r.1,.str r.2.1,.str r.2.2]
def dR:Rw:=(0,[],[])
def rowsL:List Rw:=[(10,[83,99,111,112,101],[110,68]),(11,[68,101,118,105,99,101],[115,68]),(12,[80,111,119,101,114,82,101,115,111,117,114,99,101],[115,105,105,68]),(13,[78,97,109,101],[115,100]),(14,[77,101,116,104,111,100],[115,105,105,105,83]),(15,[79,112,101,114,97,116,105,111,110,82,101,103,105,111,110],[115,105,105,105]),(16,[70,105,101,108,100],[110,105,105,70]),(17,[73,110,100,101,120,70,105,101,108,100],[110,110,105,105,70]),(18,[85,110,105,116],[115,105]),(19,[83,107,105,112],[105]),(20,[77,117,116,101,120],[115,105]),(21,[69,118,101,110,116],[115]),(30,[83,116,111,114,101],[101,116]),(31,[73,102],[101,83]),(32,[87,104,105,108,101],[101,83]),(33,[82,101,116,117,114,110],[]),(34,[66,114,101,97,107],[]),(35,[67,111,110,116,105,110,117,101],[]),(36,[82,101,108,101,97,115,101],[110]),(37,[83,105,103,110,97,108],[110]),(38,[82,101,115,101,116],[110]),(39,[83,108,101,101,112],[101]),(40,[78,111,116,105,102,121],[110,101]),(41,[65,99,113,117,105,114,101],[110,105]),(42,[87,97,105,116],[110,101]),(50,[66,117,102,102,101,114],[105,73]),(51,[80,97,99,107,97,103,101],[105,80]),(85,[82,101,102,79,102],[116]),(87,[79,98,106,101,99,116,84,121,112,101],[116]),(86,[67,111,110,100,82,101,102,79,102],[110]),(88,[77,105,100],[101,101,101]),(60,[65,100,100],[101,101]),(61,[83,117,98,116,114,97,99,116],[101,101]),(62,[77,117,108,116,105,112,108,121],[101,101]),(63,[68,105,118,105,100,101],[101,101]),(64,[77,111,100],[101,101]),(65,[65,110,100],[101,101]),(66,[79,114],[101,101]),(67,[88,111,114],[101,101]),(68,[83,104,105,102,116,76,101,102,116],[101,101]),(69,[83,104,105,102,116,82,105,103,104,116],[101,101]),(70,[76,65,110,100],[101,101]),(71,[76,79,114],[101,101]),(72,[76,69,113,117,97,108],[101,101]),(73,[76,76,101,115,115],[101,101]),(74,[76,71,114,101,97,116,101,114],[101,101]),(75,[67,111,110,99,97,116,101,110,97,116,101],[101,101]),(76,[73,110,100,101,120],[101,101]),(77,[78,111,116],[101]),(78,[76,78,111,116],[101]),(79,[83,105,122,101,79,102],[101]),(80,[84,111,73,110,116,101,103,101,114],[101]),(81,[84,111,66,117,102,102,101,114],[101]),(82,[84,111,72,101,120,83,116,114,105,110,103],[101]),(83,[84,111,68,101,99,105,109,97,108,83,116,114,105,110,103],[101]),(84,[68,101,114,101,102,79,102],[101])]
def noOv:FuncId->List V->Nat->T Bl->Option KC:=fun _ _ _ _=>none
theorem CE (P:Program):sn P noOv:=fun f args n h r hr=>by cases hr
theorem xZ:SC Tryz.prog 210 [] 0 (puts [] (toW [])) (.s (.sla 76 77 56)) 78 (puts [] (toW [(76,⟨[.int .i64 10,.str [83,99,111,112,101],.str [110,68],.int .i64 11,.str [68,101,118,105,99,101],.str [115,68],.int .i64 12,.str [80,111,119,101,114,82,101,115,111,117,114,99,101],.str [115,105,105,68],.int .i64 13,.str [78,97,109,101],.str [115,100],.int .i64 14,.str [77,101,116,104,111,100],.str [115,105,105,105,83],.int .i64 15,.str [79,112,101,114,97,116,105,111,110,82,101,103,105,111,110],.str [115,105,105,105],.int .i64 16,.str [70,105,101,108,100],.str [110,105,105,70],.int .i64 17,.str [73,110,100,101,120,70,105,101,108,100],.str [110,110,105,105,70],.int .i64 18,.str [85,110,105,116],.str [115,105],.int .i64 19,.str [83,107,105,112],.str [105],.int .i64 20,.str [77,117,116,101,120],.str [115,105],.int .i64 21,.str [69,118,101,110,116],.str [115],.int .i64 30,.str [83,116,111,114,101],.str [101,116],.int .i64 31,.str [73,102],.str [101,83],.int .i64 32,.str [87,104,105,108,101],.str [101,83],.int .i64 33,.str [82,101,116,117,114,110],.str [],.int .i64 34,.str [66,114,101,97,107],.str [],.int .i64 35,.str [67,111,110,116,105,110,117,101],.str [],.int .i64 36,.str [82,101,108,101,97,115,101],.str [110],.int .i64 37,.str [83,105,103,110,97,108],.str [110],.int .i64 38,.str [82,101,115,101,116],.str [110],.int .i64 39,.str [83,108,101,101,112],.str [101],.int .i64 40,.str [78,111,116,105,102,121],.str [110,101],.int .i64 41,.str [65,99,113,117,105,114,101],.str [110,105],.int .i64 42,.str [87,97,105,116],.str [110,101],.int .i64 50,.str [66,117,102,102,101,114],.str [105,73],.int .i64 51,.str [80,97,99,107,97,103,101],.str [105,80],.int .i64 85,.str [82,101,102,79,102],.str [116],.int .i64 87,.str [79,98,106,101,99,116,84,121,112,101],.str [116],.int .i64 86,.str [67,111,110,100,82,101,102,79,102],.str [110],.int .i64 88,.str [77,105,100],.str [101,101,101],.int .i64 60,.str [65,100,100],.str [101,101],.int .i64 61,.str [83,117,98,116,114,97,99,116],.str [101,101],.int .i64 62,.str [77,117,108,116,105,112,108,121],.str [101,101],.int .i64 63,.str [68,105,118,105,100,101],.str [101,101],.int .i64 64,.str [77,111,100],.str [101,101],.int .i64 65,.str [65,110,100],.str [101,101],.int .i64 66,.str [79,114],.str [101,101],.int .i64 67,.str [88,111,114],.str [101,101],.int .i64 68,.str [83,104,105,102,116,76,101,102,116],.str [101,101],.int .i64 69,.str [83,104,105,102,116,82,105,103,104,116],.str [101,101],.int .i64 70,.str [76,65,110,100],.str [101,101],.int .i64 71,.str [76,79,114],.str [101,101],.int .i64 72,.str [76,69,113,117,97,108],.str [101,101],.int .i64 73,.str [76,76,101,115,115],.str [101,101],.int .i64 74,.str [76,71,114,101,97,116,101,114],.str [101,101],.int .i64 75,.str [67,111,110,99,97,116,101,110,97,116,101],.str [101,101],.int .i64 76,.str [73,110,100,101,120],.str [101,101],.int .i64 77,.str [78,111,116],.str [101],.int .i64 78,.str [76,78,111,116],.str [101],.int .i64 79,.str [83,105,122,101,79,102],.str [101],.int .i64 80,.str [84,111,73,110,116,101,103,101,114],.str [101],.int .i64 81,.str [84,111,66,117,102,102,101,114],.str [101],.int .i64 82,.str [84,111,72,101,120,83,116,114,105,110,103],.str [101],.int .i64 83,.str [84,111,68,101,99,105,109,97,108,83,116,114,105,110,103],.str [101],.int .i64 84,.str [68,101,114,101,102,79,102],.str [101]],207,true,false,false,false,(some (77,3)),none,none⟩)])):=
 SC.ofRunQ hm (CE _) (lf:=1000) (d:=10) Tryz.func210 rfl (by kernel_rfl) (by kernel_rfl) (by kernel_rfl)
theorem x4:FC Tryz.prog 210 [] 0 [] (.s (.frz (fun k=>rwC (rowsL.getD k dR)) 3 56)) 0 []:=by
 refine⟨by kernel_rfl,SC.froz xZ (fun k=>rwC (rowsL.getD k dR)) 3 (i:=76) rfl rfl rfl (fun _ _=>rfl) (fun k j x hk hx=>⟨?_,?_⟩) (fun φ ψ x h hx=>h _ x rfl hx)⟩
 ·exact dE rwC 3 dR (fun _=>rfl) (l:=rowsL) hk hx
 ·rcases j with _|_|_|j
  ·cases hx;rfl
  ·cases hx;rfl
  ·cases hx;rfl
  ·simp[rwC] at hx
set_option maxRecDepth 100000
set_option maxHeartbeats 4000000
def qc (op:Int):List Rw->Rw×Bool
 |[]=>(dR,false)
 |r::t=>if r.1=op then (r,true) else qc op t
def ld (op:Int):Rw×Bool:=qc op rowsL
theorem og (op:Int):FC Tryz.prog 145 [nI op] 0 [] (.tup [.agg (rwC (ld op).1),.s (.bool (ld op).2)]) 0 []:=by
 refine FC.walk (by kernel_rfl) Tryz.func145 rfl rfl ?_;have hl:rowsL.length=56:=rfl;unfold ld;generalize hR:qc op rowsL=R
 repeat'(first|exact y0|refine y1 ?_|refine y2 ?_ ?_|(refine y8 ?_ ?_<;>intro h<;>try exact y6)|(refine wC ?_;first|refine wF 210 (pu x4 ?_))|refine y3 ?_|refine y7 ?_ ?_|refine y4 ?_|(refine y9 ?_ ?_<;>intro h)|exact y5|fail)
 generalize rowsL=rl at*;refine Ex.inv (σ:=Nat) (fun j=>[(5,nI j)]) (fun _=>[(0,some {cells:=[.int .i64 0,.str [],.str []],ty:=207})]) (fun j=>j<=56/\qc op (rl.drop j)=R) (fun j=>56-j) 0 rfl (fun _=>rfl) ⟨Nat.zero_le _,hR⟩ ⟨VLe.refl _,trivial⟩ ⟨rfl,trivial⟩ ?_;rintro j ⟨hj,hI⟩;by_cases h:j<56
 ·have hd:rl.drop j=rl.getD j dR::rl.drop (j+1):=by
   rw[List.drop_eq_getElem_cons (by omega),List.getD_eq_getElem?_getD,List.getElem?_eq_getElem (by omega)];rfl
  rw[hd] at hI;simp only[qc] at hI;by_cases ho:(rl.getD j dR).1=op
  ·rw[if_pos ho] at hI
   subst hI
   repeat'(first|exact y0|refine y1 ?_|refine y2 ?_ ?_|(refine y8 ?_ ?_<;>intro h<;>try(exact y6))|refine Fin.plain (.inl rfl) rfl ?_ rfl|refine y3 ?_|refine y7 ?_ ?_|refine y4 ?_|(refine y9 ?_ ?_<;>intro h)|exact y5|fail)
   all_goals rfl
  ·rw[if_neg ho] at hI
   repeat'(first|exact y0|refine y1 ?_|refine y2 ?_ ?_|(refine y8 ?_ ?_<;>intro h<;>try(exact y6))|refine y3 ?_|refine y7 ?_ ?_|refine y4 ?_|(refine y9 ?_ ?_<;>intro h)|exact y5|fail)
   refine LoopR.same (j+1) ⟨by omega,hI⟩ (by omega) rfl ⟨VLe.refl _,trivial⟩ ⟨rfl,trivial⟩ rfl rfl (by decide)
 ·rw[List.drop_eq_nil_of_le (by omega)] at hI
  subst hI
  repeat'(first|exact y0|refine y1 ?_|refine y2 ?_ ?_|(refine y8 ?_ ?_<;>intro h<;>try exact y6)|refine Fin.plain (.inl rfl) rfl ?_ rfl|refine y3 ?_|refine y7 ?_ ?_|refine y4 ?_|(refine y9 ?_ ?_<;>intro h)|exact y5|fail)
  all_goals rfl
def cX (op kids:Int):By×Bool:=
 if op=1\/op=2\/op=3\/op=6\/op=7 then ([],decide (kids=0))
 else if op=5 then (if kids<0\/7<kids then ([],false) else (e7.take kids.toNat,true))
 else if op=31/\kids=3 then ([101,83,83],true)
 else if op=33/\kids=1 then ([101],true)
 else ((ld op).1.2.2,(ld op).2&&decide (((ld op).1.2.2.length:Int)=kids))
theorem zg (op:Int) (k:Nat):FC Tryz.prog 149 [nI op,nI (k:Int)] 0 [] (.tup [.s (.str (cX op k).1),.s (.bool (cX op k).2)]) 0 []:=by
 refine FC.walk (by kernel_rfl) Tryz.func149 rfl rfl ?_;have hr:=og op;unfold cX;generalize ld op=R at*;obtain⟨⟨o,wd,kd⟩,ok⟩:=R;cases ok
 all_goals
  repeat'(first|exact y0|refine y1 ?_|refine y2 ?_ ?_|(refine y8 ?_ ?_<;>intro h<;>try exact y6)|(refine wC ?_;first|refine wF 145 (pu hr ?_))|refine Fin.plain (.inl rfl) rfl ?_ rfl|refine y3 ?_|refine y7 ?_ ?_|refine y4 ?_|(refine y9 ?_ ?_<;>intro h)|exact y5|fail)
  all_goals first
   |(show k<=7;omega)
   |exact pM (by unfold e7;simp_all<;>omega)
   |exact pM (by unfold e7;simp_all;done)
theorem zi (op:Int) (k:Int) (hk:k<0):FC Tryz.prog 149 [nI op,nI k] 0 [] (.tup [.s (.str (cX op k).1),.s (.bool (cX op k).2)]) 0 []:=by
 refine FC.walk (by kernel_rfl) Tryz.func149 rfl rfl ?_;have hr:=og op;unfold cX;generalize ld op=R at*;obtain⟨⟨o,wd,kd⟩,ok⟩:=R;cases ok
 all_goals
  repeat'(first|exact y0|refine y1 ?_|refine y2 ?_ ?_|(refine y8 ?_ ?_<;>intro h<;>try exact y6)|(refine wC ?_;first|refine wF 145 (pu hr ?_))|refine Fin.plain (.inl rfl) rfl ?_ rfl|refine y3 ?_|refine y7 ?_ ?_|refine y4 ?_|(refine y9 ?_ ?_<;>intro h)|exact y5|fail)
  all_goals first
   |exact pM (by unfold e7;simp_all<;>omega)
   |exact pM (by unfold e7;simp_all;done)
theorem zj (op k:Int):FC Tryz.prog 149 [nI op,nI k] 0 [] (.tup [.s (.str (cX op k).1),.s (.bool (cX op k).2)]) 0 []:=by
 by_cases h:k<0
 ·exact zi op k h
 ·obtain⟨n,rfl⟩:=Int.eq_ofNat_of_zero_le (by omega:0<=k)
  exact zg op n
theorem wK (op int:Int) (str:By) (kids k:Int) (hl:str.length<=4398046511104):FC Tryz.prog 150 [.agg [.int .i64 op,.int .u64 int,.str str,.int .i64 kids],n8 k] 0 [] (bV (bc ⟨op,int,str,kids⟩ k)) 0 []:=by
 have hpp:=yk str hl;have hsg:=xW str (by omega)
 have hkey:∀ p,aq str=(p,true)->aL p=str/\vL p=aG str/\aC p=true:=fun p h=>⟨m8 h,B_ h,jY h⟩
 generalize hp:aq str=pp at*;obtain⟨pt,ok⟩:=pp;refine FC.walk (by kernel_rfl) Tryz.func150 rfl rfl ?_;cases ok
 ·
  obtain⟨root,up,segs⟩:=pt
  repeat'(first|exact y0|refine y1 ?_|refine y2 ?_ ?_|(refine y8 ?_ ?_<;>intro h<;>try exact y6)|(refine wC ?_;first|refine wF 51 (pu hpp ?_))|refine Fin.bool (.inl rfl) rfl ?_|refine y3 ?_|refine y7 ?_ ?_|refine y4 ?_|(refine y9 ?_ ?_<;>intro h)|exact y5|fail)
  all_goals first
   |(unfold bc;simp_all;done)
   |(unfold bc;simp_all;omega)
 ·
  obtain⟨k1,k2,k3⟩:=hkey pt rfl
  have hso:Gk pt.segs:=fun i hi=>by
   have:=jn (aS k3).2.2.2.2.1 hi;omega
  have hfm:=FB pt hso;rw[k1] at hfm;obtain⟨root,up,segs⟩:=pt
  cases hsb:aG str<;>rw[hsb] at hsg
  all_goals
   repeat'(first|exact y0|refine y1 ?_|refine y2 ?_ ?_|(refine y8 ?_ ?_<;>intro h<;>try exact y6)|(refine wC ?_;first|refine wF 51 (pu hpp ?_)|refine wF 54 (pu hfm ?_)|refine wF 138 (bo hsg ?_))|refine Fin.bool (.inl rfl) rfl ?_|refine y3 ?_|refine y7 ?_ ?_|refine y4 ?_|(refine y9 ?_ ?_<;>intro h)|exact y5|fail)
   all_goals first
    |(unfold bc;simp_all;done)
    |(unfold bc;simp_all;omega)
theorem wL (x:Nd) (k:Int) (hl:x.str.length<=4398046511104):FC Tryz.prog 150 [ndV x,n8 k] 0 [] (bV (bc x k)) 0 []:=wK x.op x.int x.str x.kids k hl
set_option maxRecDepth 100000
set_option maxHeartbeats 2000000
def jV (s:By):List Rw->Rw×Bool
 |[]=>(dR,false)
 |r::t=>if r.2.1=s then (r,true) else jV s t
theorem xq (s:By):FC Tryz.prog 208 [sV s] 0 [] (.tup [.agg (rwC (jV s rowsL).1),.s (.bool (jV s rowsL).2)]) 0 []:=by
 refine FC.walk (by kernel_rfl) Tryz.func208 rfl rfl ?_;have hl:rowsL.length=56:=rfl;generalize hR:jV s rowsL=R
 repeat'(first|exact y0|refine y1 ?_|refine y2 ?_ ?_|(refine y8 ?_ ?_<;>intro h<;>try exact y6)|(refine wC ?_;first|refine wF 210 (pu x4 ?_))|refine y3 ?_|refine y7 ?_ ?_|refine y4 ?_|(refine y9 ?_ ?_<;>intro h)|exact y5|fail)
 generalize rowsL=rl at*;refine Ex.inv (σ:=Nat) (fun j=>[(5,nI j)]) (fun _=>[(0,some {cells:=[.int .i64 0,.str [],.str []],ty:=207})]) (fun j=>j<=56/\jV s (rl.drop j)=R) (fun j=>56-j) 0 rfl (fun _=>rfl) ⟨Nat.zero_le _,hR⟩ ⟨VLe.refl _,trivial⟩ ⟨rfl,trivial⟩ ?_;rintro j ⟨hj,hI⟩;by_cases h:j<56
 ·have hd:rl.drop j=rl.getD j dR::rl.drop (j+1):=by
   rw[List.drop_eq_getElem_cons (by omega),List.getD_eq_getElem?_getD,List.getElem?_eq_getElem (by omega)];rfl
  rw[hd] at hI;simp only[jV] at hI;by_cases ho:(rl.getD j dR).2.1=s
  ·rw[if_pos ho] at hI
   subst hI
   repeat'(first|exact y0|refine y1 ?_|refine y2 ?_ ?_|(refine y8 ?_ ?_<;>intro h<;>try(exact y6))|refine Fin.plain (.inl rfl) rfl ?_ rfl|refine y3 ?_|refine y7 ?_ ?_|refine y4 ?_|(refine y9 ?_ ?_<;>intro h)|exact y5|fail)
   all_goals rfl
  ·rw[if_neg ho] at hI
   repeat'(first|exact y0|refine y1 ?_|refine y2 ?_ ?_|(refine y8 ?_ ?_<;>intro h<;>try(exact y6))|refine y3 ?_|refine y7 ?_ ?_|refine y4 ?_|(refine y9 ?_ ?_<;>intro h)|exact y5|fail)
   refine LoopR.same (j+1) ⟨by omega,hI⟩ (by omega) rfl ⟨VLe.refl _,trivial⟩ ⟨rfl,trivial⟩ rfl rfl (by decide)
 ·rw[List.drop_eq_nil_of_le (by omega)] at hI
  subst hI
  repeat'(first|exact y0|refine y1 ?_|refine y2 ?_ ?_|(refine y8 ?_ ?_<;>intro h<;>try exact y6)|refine Fin.plain (.inl rfl) rfl ?_ rfl|refine y3 ?_|refine y7 ?_ ?_|refine y4 ?_|(refine y9 ?_ ?_<;>intro h)|exact y5|fail)
  all_goals rfl
def GL:List V->Option V
 |[.s (.int .i64 z)]=>some (.tup [.agg (rwC (ld z).1),.s (.bool (ld z).2)])
 |_=>none
def Eh:List V->Option V
 |[.s (.str s)]=>some (.tup [.agg (rwC (jV s rowsL).1),.s (.bool (jV s rowsL).2)])
 |_=>none
def tabOv:FuncId->List V->Nat->T Bl->Option KC:=EY (ovG 145 GL) (ovG 208 Eh)
theorem xI:sn Tryz.prog tabOv:=by
 refine Cy (yr fun args v h=>?_) (yr fun args v h=>?_)
 ·unfold GL at h
  split at h
  ·cases h;exact⟨og _,rfl,rfl⟩
  ·cases h
 ·unfold Eh at h
  split at h
  ·cases h;exact⟨xq _,rfl,rfl⟩
  ·cases h
end Go.Proofs.YtegjgpldfgjoiaaGreatDoor
