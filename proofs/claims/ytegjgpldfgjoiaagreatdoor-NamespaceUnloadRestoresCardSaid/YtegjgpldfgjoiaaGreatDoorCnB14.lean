import Derived.Test.YtegjgpldfgjoiaaGreatDoorCnB13
import Derived.Test.YtegjgpldfgjoiaaGreatDoorCnB11
import Derived.Shelf.Strings.OnBuilder
import Derived.Below
import Derived.Test.YtegjgpldfgjoiaaGreatDoorRows
set_option linter.unusedSimpArgs false
set_option linter.unusedVariables false
namespace Go.Proofs.YtegjgpldfgjoiaaGreatDoor
open Go Ab
set_option maxRecDepth 100000
set_option maxHeartbeats 1000000
def Gp (l:List Pth):S:=.frz (fun k=>ptC (l.getD k z0)) 3 l.length
def scP (bs:List By) (live:Bool) (k:Nat):Pth:=if live then ⟨true,0,bs.take k⟩ else z0
def eg (bs:List By) (s:By):Nat->List Pth
 |0=>[⟨true,0,[s]⟩]
 |k+1=>if 32<k+2 then eg bs s k else ⟨true,0,bs.take (k+1)++[s]⟩::eg bs s k
def bK (b r:Pth):List Pth:=
 if fM b=false\/aC r=false then []
 else if r.root=true\/0<r.up\/r.segs.length≠1 then (if (bp b r).2 then [(bp b r).1] else [])
 else eg b.segs (r.segs.headD []) b.segs.length
def resS:List Pth->S
 |[]=> .slc none 0 (some 0)
 |p::l=> .sla 3 4 (l.length+1)
def resH:List Pth->Hp
 |[]=>[]
 |p::l=>[(3,some {cells:=(p::l).flatMap ptC,ty:=99,more:=true,sym:=true,flat:=true,gh:=some (4,3)})]
theorem yi {p:Pth} {j:Nat} {x:S} (h:(ptC p)[j]? =some x):aY x=true:=by
 unfold ptC at h
 match j,h with
 |0,h=>cases h;rfl
 |1,h=>cases h;rfl
 |2,h=>cases h;rfl
 |j+3,h=>simp at h
theorem iG:∀ {l:List Pth} {k j:Nat} {x:S},k<l.length->(ptC (l.getD k z0))[j]? =some x->(l.flatMap ptC)[k*3+j]? =some x/\aY x=true
 |[],k,j,x,hk,_=>by simp at hk
 |p::l,0,j,x,hk,hx=>by
  refine⟨?_,yi hx⟩
  have hj:j<(ptC p).length:=by
   rcases Nat.lt_or_ge j (ptC p).length with h|h
   ·exact h
   ·exfalso;simp only[List.getD_cons_zero] at hx;rw[List.getElem?_eq_none h] at hx;cases hx
  rw[Nat.zero_mul,Nat.zero_add,List.flatMap_cons,List.getElem?_append_left hj];exact hx
 |p::l,k+1,j,x,hk,hx=>by
  have:=iG (l:=l) (k:=k) (j:=j) (x:=x) (by simpa using hk) hx;refine⟨?_,this.2⟩;rw[List.flatMap_cons,List.getElem?_append_right (by simp[ptC];omega)];rw[show (k+1)*3+j-(ptC p).length=k*3+j by simp[ptC];omega];exact this.1
theorem uu (p:Pth):∀ (k j:Nat) (x:S),k<1->(ptC ([p].getD k z0))[j]? =some x->(ptC p)[k*3+j]? =some x/\aY x=true:=by
 intro k j x hk hx;have:=iG (l:=[p]) (k:=k) (j:=j) (x:=x) hk hx
 simpa using this
theorem rZ {bs:List By} {k:Nat} (h:fM ⟨true,0,bs⟩=true):fM ⟨true,0,bs.take k⟩=true:=by
 unfold fM aC at*;simp only[Bool.and_eq_true,decide_eq_true_eq,Bool.true_and,Bool.true_or,Bool.and_true,List.all_eq_true,List.length_take] at*;obtain⟨⟨⟨⟨h1,h2⟩,h3⟩,h4⟩,h5⟩:=h;refine⟨⟨⟨⟨h1,h2⟩,h3⟩,by omega⟩,fun x hx=>h5 x (List.mem_of_mem_take hx)⟩
theorem wx {bs:List By} {s0:By} {k:Nat} (h:fM ⟨true,0,bs⟩=true) (hv:aC ⟨false,0,[s0]⟩=true) (hk:k<=bs.length):bp ⟨true,0,bs.take k⟩ ⟨false,0,[s0]⟩=if 32<k+1 then (z0,false) else (⟨true,0,bs.take k++[s0]⟩,true):=by
 have h1:=rZ (k:=k) h
 have hl:(bs.take k).length=k:=by rw[List.length_take];omega
 unfold bp;rw[if_neg (by simp[h1,hv]),if_neg (by simp)];simp only[hl,List.length_singleton];by_cases h32:32<k+1
 ·rw[if_pos h32,if_pos (by omega)]
 ·rw[if_neg h32,if_neg (by omega),Int.sub_zero,Int.toNat_natCast,List.take_take,Nat.min_self]
theorem ql {bs:List By} {k:Nat} (h:fM ⟨true,0,bs⟩=true) (hk:k<=bs.length):bw ⟨true,0,bs.take k⟩=if k=0 then (z0,false) else (⟨true,0,bs.take (k-1)⟩,true):=by
 have h1:=rZ (k:=k) h
 have hl:(bs.take k).length=k:=by rw[List.length_take];omega
 unfold bw;simp only[h1,hl];by_cases hk0:k=0
 ·rw[if_pos hk0,if_pos (.inr hk0)]
 ·rw[if_neg hk0,if_neg (by simp[hk0]),List.take_take,Nat.min_eq_left (by omega)]
theorem bP:∀ l:List Pth,(l.flatMap ptC).length=l.length*3
 |[]=>rfl
 |p::l=>by rw[List.flatMap_cons,List.length_append,bP l];simp only[List.length_cons];simp[ptC];omega
theorem jP (bs:List By) (s0:By):∀ k,(eg bs s0 k).length<=k+1
 |0=>by simp[eg]
 |k+1=>by
  have:=jP bs s0 k;unfold eg;split
  ·omega
  ·simp only[List.length_cons];omega
theorem FW (br:Bool) (bu:Int) (bs:List By) (rr:Bool) (ru:Int) (rs:List By):
 FC Tryz.prog 49 [.agg [.bool br,.int .i64 bu,aJ bs],.agg [.bool rr,.int .i64 ru,aJ rs]] 0 [] (.s (Gp (bK ⟨br,bu,bs⟩ ⟨rr,ru,rs⟩))) 0 []:=by
 have ha:=tP br bu bs;have hv:=dh rr ru rs;have hj:=s_ br bu bs rr ru rs;refine FC.walk (by kernel_rfl) Tryz.func49 rfl rfl ?_
 cases h1:fM ⟨br,bu,bs⟩<;>rw[h1] at ha
 ·
  repeat'(first|exact y0|refine y1 ?_|refine y2 ?_ ?_|(refine y8 ?_ ?_<;>intro h<;>try exact y6)|(refine wC ?_;first|refine wF 94 (bo ha ?_))|refine Fin.le (.inl rfl) rfl ?_ rfl|refine y3 ?_|refine y7 ?_ ?_|refine y4 ?_|(refine y9 ?_ ?_<;>intro h)|exact y5|fail)
  simp only[bK,h1];exact VLe.s SLe.nil
 cases h2:aC ⟨rr,ru,rs⟩<;>rw[h2] at hv
 ·
  repeat'(first|exact y0|refine y1 ?_|refine y2 ?_ ?_|(refine y8 ?_ ?_<;>intro h<;>try exact y6)|(refine wC ?_;first|refine wF 94 (bo ha ?_)|refine wF 93 (bo hv ?_))|refine Fin.le (.inl rfl) rfl ?_ rfl|refine y3 ?_|refine y7 ?_ ?_|refine y4 ?_|(refine y9 ?_ ?_<;>intro h)|exact y5|fail)
  simp only[bK,h1,h2];exact VLe.s SLe.nil
 obtain⟨a1,a2,a3⟩:=gQ h1;obtain⟨v1,v2,v3,v4,v5,v6⟩:=aS h2;simp only at a1 a2 a3 v1 v2 v3 v4 v5 v6;by_cases hc:rr=true\/0<ru\/rs.length≠1
 ·have hcand:bK ⟨br,bu,bs⟩ ⟨rr,ru,rs⟩=if (bp ⟨br,bu,bs⟩ ⟨rr,ru,rs⟩).2 then [(bp ⟨br,bu,bs⟩ ⟨rr,ru,rs⟩).1] else []:=by
   unfold bK;rw[if_neg (by simp[h1,h2]),if_pos hc]
  rw[hcand];generalize bp ⟨br,bu,bs⟩ ⟨rr,ru,rs⟩=j at*;obtain⟨p,ok⟩:=j;cases ok
  ·cases rr
   ·have hc':0<ru\/rs.length≠1:=by simpa using hc
    repeat'(first|exact y0|refine y1 ?_|refine y2 ?_ ?_|(refine y8 ?_ ?_<;>intro h<;>try exact y6)|(refine wC ?_;first|refine wF 94 (bo ha ?_)|refine wF 93 (bo hv ?_)|refine wF 95 (pu hj ?_))|refine Fin.le (.inl rfl) rfl ?_ rfl|refine y3 ?_|refine y7 ?_ ?_|refine y4 ?_|(refine y9 ?_ ?_<;>intro h)|exact y5|fail)
    all_goals exact VLe.s SLe.nil
   ·
    repeat'(first|exact y0|refine y1 ?_|refine y2 ?_ ?_|(refine y8 ?_ ?_<;>intro h<;>try exact y6)|(refine wC ?_;first|refine wF 94 (bo ha ?_)|refine wF 93 (bo hv ?_)|refine wF 95 (pu hj ?_))|refine Fin.le (.inl rfl) rfl ?_ rfl|refine y3 ?_|refine y7 ?_ ?_|refine y4 ?_|(refine y9 ?_ ?_<;>intro h)|exact y5|fail)
    all_goals exact VLe.s SLe.nil
  ·cases rr
   ·have hc':0<ru\/rs.length≠1:=by simpa using hc
    repeat'(first|exact y0|refine y1 ?_|refine y2 ?_ ?_|(refine y8 ?_ ?_<;>intro h<;>try exact y6)|(refine wC ?_;first|refine wF 94 (bo ha ?_)|refine wF 93 (bo hv ?_)|refine wF 95 (pu hj ?_))|refine RegX.app [.app 1 (ptC p)] rfl rfl ?_ rfl rfl rfl ?_|refine Ex.fz 4 (fun k=>ptC ([p].getD k z0)) 3 rfl rfl rfl rfl (fun k _=>rfl) (uu p) rfl rfl ?_|refine Fin.le (.inl rfl) rfl ?_ rfl|refine y3 ?_|refine y7 ?_ ?_|refine y4 ?_|(refine y9 ?_ ?_<;>intro h)|exact y5|fail)
    all_goals first
     |exact VLe.refl _
     |(rw[show (Tryz.prog.types[99]).size=3 by kernel_rfl];exact Nat.le_refl _)
     |(rw[show (Tryz.prog.types[99]).bytes=40 by kernel_rfl];omega)
   ·
    repeat'(first|exact y0|refine y1 ?_|refine y2 ?_ ?_|(refine y8 ?_ ?_<;>intro h<;>try exact y6)|(refine wC ?_;first|refine wF 94 (bo ha ?_)|refine wF 93 (bo hv ?_)|refine wF 95 (pu hj ?_))|refine RegX.app [.app 1 (ptC p)] rfl rfl ?_ rfl rfl rfl ?_|refine Ex.fz 4 (fun k=>ptC ([p].getD k z0)) 3 rfl rfl rfl rfl (fun k _=>rfl) (uu p) rfl rfl ?_|refine Fin.le (.inl rfl) rfl ?_ rfl|refine y3 ?_|refine y7 ?_ ?_|refine y4 ?_|(refine y9 ?_ ?_<;>intro h)|exact y5|fail)
    all_goals first
     |exact VLe.refl _
     |(rw[show (Tryz.prog.types[99]).size=3 by kernel_rfl];exact Nat.le_refl _)
     |(rw[show (Tryz.prog.types[99]).bytes=40 by kernel_rfl];omega)
 ·have hr:rr=false:=by cases rr<;>simp_all
  have hu:ru=0:=by
   have: ¬0<ru:=fun h=>hc (.inr (.inl h))
   omega
  have hl:rs.length=1:=Classical.not_not.1 fun h=>hc (.inr (.inr h))
  obtain⟨s0,rfl⟩:∃ s0,rs=[s0]:=List.length_eq_one_iff.1 hl;subst hr hu a1 a2
  have hcand:bK ⟨true,0,bs⟩ ⟨false,0,[s0]⟩=eg bs s0 bs.length:=by
   unfold bK;rw[if_neg (by simp[h1,h2]),if_neg (by simp)];rfl
  rw[hcand]
  repeat'(first|exact y0|refine y1 ?_|refine y2 ?_ ?_|(refine y8 ?_ ?_<;>intro h<;>try exact y6)|(refine wC ?_;first|refine wF 94 (bo ha ?_)|refine wF 93 (bo hv ?_))|refine y3 ?_|refine y7 ?_ ?_|refine y4 ?_|(refine y9 ?_ ?_<;>intro h)|exact y5|fail)
  refine Ex.upN (n':=5) (by omega) ?_
  refine Ex.inv (σ:=Bool×Nat×List Pth) (fun x=>[(5,.s (resS x.2.2)),(8,.s (.ptr (some (2,0)))),(9,.s (.bool x.1))])
   (fun x=>(0,some {cells:=[.bool true,.int .i64 0,aJ bs],ty:=99})::(1,some {cells:=[.bool false,.int .i64 0,aJ [s0]],ty:=99})::(2,some {cells:=ptC (scP bs x.1 x.2.1),ty:=99})::resH x.2.2)
   (fun x=>x.2.1<=bs.length/\x.2.2++(if x.1 then eg bs s0 x.2.1 else [])=eg bs s0 bs.length) (fun x=>if x.1 then x.2.1+1 else 0) (true,bs.length,[]) rfl (fun _=>rfl) ⟨Nat.le_refl _,by simp⟩ ⟨VLe.refl _,VLe.refl _,VLe.refl _,trivial⟩ ⟨rfl,rfl,?_,trivial⟩ ?_
  ·simp only[scP,ptC,if_true,List.take_length];rfl
  ·rintro⟨live,k,done⟩ ⟨i1,i2⟩
   simp only at i1 i2 |-;cases live
   ·simp only[Bool.false_eq_true,if_false,List.append_nil] at i2
    subst i2
    cases hd:eg bs s0 bs.length with
    |nil=>
     repeat'(first|exact y0|refine y1 ?_|refine y2 ?_ ?_|(refine y8 ?_ ?_<;>intro h<;>try exact y6)|refine Fin.le (.inl rfl) rfl (VLe.s SLe.nil) rfl|refine y3 ?_|refine y7 ?_ ?_|refine y4 ?_|(refine y9 ?_ ?_<;>intro h)|exact y5|fail)
    |cons d l=>
     repeat'(first|exact y0|refine y1 ?_|refine y2 ?_ ?_|(refine y8 ?_ ?_<;>intro h<;>try exact y6)|refine Ex.fz 4 (fun k=>ptC ((d::l).getD k z0)) 3 rfl rfl rfl rfl (fun k _=>rfl) (fun k j x hk hx=>iG hk hx) rfl rfl ?_|refine Fin.le (.inl rfl) rfl (VLe.refl _) rfl|refine y3 ?_|refine y7 ?_ ?_|refine y4 ?_|(refine y9 ?_ ?_<;>intro h)|exact y5|fail)
   ·have hjk:=s_ true 0 (bs.take k) false 0 [s0]
    have hpk:=qk true 0 (bs.take k);rw[wx h1 h2 i1] at hjk;rw[ql h1 i1] at hpk;simp only[if_true] at i2
    have hlen:done.length<=33:=by
     have e1:=jP bs s0 bs.length;rw[<-i2,List.length_append] at e1;omega
    have hsz:(Tryz.prog.types[99]).size=3:=by kernel_rfl
    have hby:(Tryz.prog.types[99]).bytes=40:=by kernel_rfl
    cases k with
    |zero=>
     rw[if_neg (by omega)] at hjk;rw[if_pos rfl] at hpk;simp only[eg] at i2
     cases done with
     |nil=>
      repeat'(first|refine Ex.flat 7 rfl rfl rfl rfl ?_|exact y0|refine y1 ?_|refine y2 ?_ ?_|(refine y8 ?_ ?_<;>intro h<;>try exact y6)|(refine wC ?_;first|refine wF 95 (pu hjk ?_)|refine wF 96 (pu hpk ?_))|refine RegX.app [.app 1 (ptC (Pth.mk true 0 (bs.take 0++[s0])))] rfl rfl ?_ rfl rfl rfl ?_|refine y3 ?_|refine y7 ?_ ?_|refine y4 ?_|(refine y9 ?_ ?_<;>intro h)|exact y5|fail)
      all_goals try first
       |(rw[hsz];exact Nat.le_refl _)
       |(simp only[List.length_append,List.length_cons,List.length_nil];done)
       |(rw[hby];simp only[List.length_cons] at hlen;omega)
       |(rw[hby];simp only[List.length_cons,List.length_append,List.length_nil] at hlen |-;omega)
       |(simp only[List.length_cons,List.length_append,List.length_nil] at hlen |-;omega)
       |(rw[hsz,bP];exact Nat.le_refl _)
       |(rw[hsz,List.flatMap_append];show _=List.take ((d::l).length*3) (List.flatMap ptC (d::l))++_;rw[<-bP,List.take_length];rfl)
       |(unfold aR;rfl)
      refine LoopR.move (false,0,[Pth.mk true 0 (bs.take 0++[s0])]) ⟨Nat.zero_le _,?_⟩ (by simp) [0,1,9,7,8] rfl ?_ ?_ rfl
      ·simpa using i2
      ·repeat' (first|exact VLe.refl _|exact VLe.any _|exact True.intro|refine⟨?_,?_⟩)
      ·exact⟨rfl,rfl,rfl,rfl,trivial⟩
     |cons d l=>
      repeat'(first|exact y0|refine y1 ?_|refine y2 ?_ ?_|(refine y8 ?_ ?_<;>intro h<;>try exact y6)|(refine wC ?_;first|refine wF 95 (pu hjk ?_)|refine wF 96 (pu hpk ?_))|refine RegX.app [.app ((l++[Pth.mk true 0 (bs.take 0++[s0])]).length+1) ((d::l++[Pth.mk true 0 (bs.take 0++[s0])]).flatMap ptC)] rfl rfl ?_ rfl rfl rfl ?_|refine y3 ?_|refine y7 ?_ ?_|refine y4 ?_|(refine y9 ?_ ?_<;>intro h)|exact y5|fail)
      all_goals try first
       |(rw[hsz];exact Nat.le_refl _)
       |(simp only[List.length_append,List.length_cons,List.length_nil];done)
       |(rw[hby];simp only[List.length_cons] at hlen;omega)
       |(rw[hby];simp only[List.length_cons,List.length_append,List.length_nil] at hlen |-;omega)
       |(simp only[List.length_cons,List.length_append,List.length_nil] at hlen |-;omega)
       |(rw[hsz,bP];exact Nat.le_refl _)
       |(rw[hsz,List.flatMap_append];show _=List.take ((d::l).length*3) (List.flatMap ptC (d::l))++_;rw[<-bP,List.take_length];rfl)
       |(unfold aR;rfl)
      refine LoopR.move (false,0,(d::l++[Pth.mk true 0 (bs.take 0++[s0])])) ⟨Nat.zero_le _,?_⟩ (by simp) [0,1,9,7,8] rfl ?_ ?_ rfl
      ·simpa using i2
      ·repeat' (first|exact VLe.refl _|exact VLe.any _|exact True.intro|refine⟨?_,?_⟩)
      ·exact⟨rfl,rfl,rfl,rfl,trivial⟩
    |succ k=>
     rw[if_neg (by omega)] at hpk;simp only[eg] at i2;by_cases h32:32<k+2
     ·rw[if_pos h32] at i2
      rw[if_pos (by omega)] at hjk
      cases done with
      |nil=>
       repeat'(first|exact y0|refine y1 ?_|refine y2 ?_ ?_|(refine y8 ?_ ?_<;>intro h<;>try exact y6)|(refine wC ?_;first|refine wF 95 (pu hjk ?_)|refine wF 96 (pu hpk ?_))|refine y3 ?_|refine y7 ?_ ?_|refine y4 ?_|(refine y9 ?_ ?_<;>intro h)|exact y5|fail)
       refine LoopR.move (true,k,[]) ⟨by simp only;omega,?_⟩ (by simp) [0,1,6,3,4] rfl ?_ ?_ rfl
       ·simpa using i2
       ·repeat' (first|exact VLe.refl _|exact VLe.any _|exact True.intro|refine⟨?_,?_⟩)
       ·exact⟨rfl,rfl,rfl,trivial⟩
      |cons d l=>
       repeat'(first|exact y0|refine y1 ?_|refine y2 ?_ ?_|(refine y8 ?_ ?_<;>intro h<;>try exact y6)|(refine wC ?_;first|refine wF 95 (pu hjk ?_)|refine wF 96 (pu hpk ?_))|refine y3 ?_|refine y7 ?_ ?_|refine y4 ?_|(refine y9 ?_ ?_<;>intro h)|exact y5|fail)
       refine LoopR.move (true,k,(d::l)) ⟨by simp only;omega,?_⟩ (by simp) [0,1,6,3,4] rfl ?_ ?_ rfl
       ·simpa using i2
       ·repeat' (first|exact VLe.refl _|exact VLe.any _|exact True.intro|refine⟨?_,?_⟩)
       ·exact⟨rfl,rfl,rfl,rfl,trivial⟩
     ·rw[if_neg h32] at i2
      rw[if_neg (by omega)] at hjk
      cases done with
      |nil=>
       repeat'(first|refine Ex.flat 7 rfl rfl rfl rfl ?_|exact y0|refine y1 ?_|refine y2 ?_ ?_|(refine y8 ?_ ?_<;>intro h<;>try exact y6)|(refine wC ?_;first|refine wF 95 (pu hjk ?_)|refine wF 96 (pu hpk ?_))|refine RegX.app [.app 1 (ptC (Pth.mk true 0 (bs.take (k+1)++[s0])))] rfl rfl ?_ rfl rfl rfl ?_|refine y3 ?_|refine y7 ?_ ?_|refine y4 ?_|(refine y9 ?_ ?_<;>intro h)|exact y5|fail)
       all_goals try first
        |(rw[hsz];exact Nat.le_refl _)
        |(simp only[List.length_append,List.length_cons,List.length_nil];done)
        |(rw[hby];simp only[List.length_cons] at hlen;omega)
        |(rw[hby];simp only[List.length_cons,List.length_append,List.length_nil] at hlen |-;omega)
        |(simp only[List.length_cons,List.length_append,List.length_nil] at hlen |-;omega)
        |(rw[hsz,bP];exact Nat.le_refl _)
        |(rw[hsz,List.flatMap_append];show _=List.take ((d::l).length*3) (List.flatMap ptC (d::l))++_;rw[<-bP,List.take_length];rfl)
        |(unfold aR;rfl)
       refine LoopR.move (true,k,[Pth.mk true 0 (bs.take (k+1)++[s0])]) ⟨by simp only;omega,?_⟩ (by simp) [0,1,9,7,8] rfl ?_ ?_ rfl
       ·simpa using i2
       ·repeat' (first|exact VLe.refl _|exact VLe.any _|exact True.intro|refine⟨?_,?_⟩)
       ·exact⟨rfl,rfl,rfl,rfl,trivial⟩
      |cons d l=>
       repeat'(first|exact y0|refine y1 ?_|refine y2 ?_ ?_|(refine y8 ?_ ?_<;>intro h<;>try exact y6)|(refine wC ?_;first|refine wF 95 (pu hjk ?_)|refine wF 96 (pu hpk ?_))|refine RegX.app [.app ((l++[Pth.mk true 0 (bs.take (k+1)++[s0])]).length+1) ((d::l++[Pth.mk true 0 (bs.take (k+1)++[s0])]).flatMap ptC)] rfl rfl ?_ rfl rfl rfl ?_|refine y3 ?_|refine y7 ?_ ?_|refine y4 ?_|(refine y9 ?_ ?_<;>intro h)|exact y5|fail)
       all_goals try first
        |(rw[hsz];exact Nat.le_refl _)
        |(simp only[List.length_append,List.length_cons,List.length_nil];done)
        |(rw[hby];simp only[List.length_cons] at hlen;omega)
        |(rw[hby];simp only[List.length_cons,List.length_append,List.length_nil] at hlen |-;omega)
        |(simp only[List.length_cons,List.length_append,List.length_nil] at hlen |-;omega)
        |(rw[hsz,bP];exact Nat.le_refl _)
        |(rw[hsz,List.flatMap_append];show _=List.take ((d::l).length*3) (List.flatMap ptC (d::l))++_;rw[<-bP,List.take_length];rfl)
        |(unfold aR;rfl)
       refine LoopR.move (true,k,(d::l++[Pth.mk true 0 (bs.take (k+1)++[s0])])) ⟨by simp only;omega,?_⟩ (by simp) [0,1,9,7,8] rfl ?_ ?_ rfl
       ·simpa using i2
       ·repeat' (first|exact VLe.refl _|exact VLe.any _|exact True.intro|refine⟨?_,?_⟩)
       ·exact⟨rfl,rfl,rfl,rfl,trivial⟩
theorem tI (b r:Pth):FC Tryz.prog 49 [ptV b,ptV r] 0 [] (.s (Gp (bK b r))) 0 []:=FW b.root b.up b.segs r.root r.up r.segs
set_option maxRecDepth 100000
set_option maxHeartbeats 1000000
inductive Ends (p:List Nd) (e:Nat):Nat->Nat->Prop
 |done:Ends p e 0 e
 |step {n i:Nat} (h:i<p.length) (k:Nat) (hk:(p.getD i dN).kids=k) (r:Ends p e (n+k) (i+1)):Ends p e (n+1) i
theorem mX (op kids:Int) (h:(aD op kids).2=true):((aD op kids).1.length:Int)=kids:=by
 unfold aD at*;split at h
 ·split at h
  ·cases h
  ·rename_i h5 h7
   simp only[if_pos h5,if_neg h7,List.length_take];show ((min kids.toNat 7:Nat):Int)=kids;omega
 ·split at h
  ·split at h
   ·cases h
   ·rename_i h5 h33 h7
    simp only[if_neg h5,if_pos h33,if_neg h7,List.length_take];show ((min kids.toNat 7:Nat):Int)=kids;omega
  ·split at h
   ·rename_i h5 h33 h31
    simp only[if_neg h5,if_neg h33,if_pos h31];show (3:Int)=kids;omega
   ·rename_i h5 h33 h31
    simp only[if_neg h5,if_neg h33,if_neg h31]
    simpa using h
theorem Ends.kids {p:List Nd} {ch:Int->Nat->Option Nat} (hch:∀ k i e,ch k i=some e->∀ n e',Ends p e' n e->Ends p e' (n+1) i):∀ (ks:By) (i e:Nat),cN ch ks i=some e->∀ n e',Ends p e' n e->Ends p e' (n+ks.length) i
 |[],i,e,h,n,e',r=>by simp only[cN,Option.some.injEq] at h;subst h;exact r
 |k::ks,i,e,h,n,e',r=>by
  simp only[cN] at h;split at h
  ·rename_i e1 h1
   exact hch _ _ _ h1 _ _ (Ends.kids hch ks e1 e h n e' r)
  ·cases h
theorem Ends.block {p:List Nd} {rec:Nat->Option Nat} (hr:∀ i e,rec i=some e->∀ n e',Ends p e' n e->Ends p e' (n+1) i):∀ (k i e:Nat),bI rec k i=some e->∀ n e',Ends p e' n e->Ends p e' (n+k) i
 |0,i,e,h,n,e',r=>by simp only[bI,Option.some.injEq] at h;subst h;exact r
 |k+1,i,e,h,n,e',r=>by
  simp only[bI] at h;split at h
  ·rename_i e1 h1
   exact hr _ _ h1 _ _ (Ends.block hr k e1 e h n e' r)
  ·cases h
def sq (p:List Nd) (E:Nat->Int->Option Nat):Prop:=∀ i k e,E i k=some e->∀ n e',Ends p e' n e->Ends p e' (n+1) i
theorem Ends.elemS {p:List Nd} {ok:Bool} {E0 E1:Nat->Int->Option Nat} (h0:sq p E0) (h1:sq p E1):sq p (elemS p ok E0 E1):=by
 intro i k e h n e' r;unfold Go.Proofs.YtegjgpldfgjoiaaGreatDoor.elemS at h;split at h
 ·cases h
 ·rename_i x hx
  split at h
  ·rename_i hc
   have hi:i<p.length:=by
    rcases Nat.lt_or_ge i p.length with q|q
    ·exact q
    ·rw[List.getElem?_eq_none q] at hx;cases hx
   have hxe:p.getD i dN=x:=by rw[List.getD_eq_getElem?_getD,hx];rfl
   refine Ends.step hi (aD x.op x.kids).1.length (by rw[hxe];exact (mX _ _ hc.2.2).symm) ?_;refine Ends.kids (fun k i e hch n e' r=>?_) _ _ _ h n e' r;unfold b_ at hch;split at hch
   ·split at hch
    ·cases hch
    ·rename_i y hy
     split at hch
     ·rename_i hb
      have hi2:i<p.length:=by
       rcases Nat.lt_or_ge i p.length with q|q
       ·exact q
       ·rw[List.getElem?_eq_none q] at hy;cases hy
      have hye:p.getD i dN=y:=by rw[List.getD_eq_getElem?_getD,hy];rfl
      refine Ends.step hi2 y.kids.toNat (by rw[hye];have:=hb.2.2.2.2;omega) ?_;exact Ends.block (fun i e h=>h1 i k e h) _ _ _ hch n e' r
     ·cases hch
   ·exact h0 i k e hch n e' r
  ·cases h
theorem Ends.elemF {p:List Nd}:∀ f,sq p (elemF p f)/\sq p (Go.Proofs.YtegjgpldfgjoiaaGreatDoor.elemF p (f+1))
 |0=>by
  refine⟨fun i k e h=>(by cases h),?_⟩;rw[cZ];exact Ends.elemS (fun i k e h=>by cases h) (fun i k e h=>by cases h)
 |f+1=>by
  have ih:=Ends.elemF (p:=p) f;refine⟨ih.2,?_⟩;rw[cZ];exact Ends.elemS ih.2 ih.1
theorem Ends.le {p:List Nd} {e n i:Nat} (h:Ends p e n i):i+n<=e/\(i<=p.length->e<=p.length):=by
 induction h with
 |done=>exact⟨Nat.le_refl _,id⟩
 |step h k hk r ih=>exact⟨by omega,fun _=>ih.2 (by omega)⟩
abbrev anP (p:List Nd):Hp:=[(0,some {cells:=[.frz (fun k=>ndC (p.getD k dN)) 4 p.length],ty:=186,more:=true,ro:=true})]
theorem AB (p:List Nd) (hp:p.length<=2048) (i e:Nat) (h:Ends p e 1 i):FC Tryz.prog 227 [.s (.ptr (some (0,0))),nI i] 1 (anP p) (nI e) 1 (anP p):=by
 refine FC.walk (by kernel_rfl) Tryz.func227 rfl rfl ?_
 repeat'(first|exact y0|refine y1 ?_|refine y2 ?_ ?_|(refine y8 ?_ ?_<;>intro h<;>try exact y6)|refine y3 ?_|refine y7 ?_ ?_|refine y4 ?_|(refine y9 ?_ ?_<;>intro h)|exact y5|fail)
 refine Ex.inv (σ:=Nat×Nat) (fun x=>[(1,nI x.2),(5,nI x.1)]) (fun x=>anP p) (fun x=>Ends p e x.1 x.2) (fun x=>p.length-x.2+(if x.1=0 then 0 else 1)) (1,i) rfl (fun _=>rfl) h ⟨VLe.refl _,VLe.refl _,trivial⟩ ⟨rfl,trivial⟩ ?_;rintro⟨n,j⟩ hE;simp only at hE |-
 cases hE with
 |done=>
  repeat'(first|exact y0|refine y1 ?_|refine y2 ?_ ?_|(refine y8 ?_ ?_<;>intro h<;>try exact y6)|exact⟨.inl rfl,_,[],VLe.refl _,EndOK.by rfl ⟨rfl,trivial⟩ rfl rfl rfl rfl⟩|refine y3 ?_|refine y7 ?_ ?_|refine y4 ?_|(refine y9 ?_ ?_<;>intro h)|exact y5|fail)
 | @step n1 _ hlt k hk r=>
   obtain⟨l1,l2⟩:=r.le;have l3:=l2 (by omega)
   repeat'(first|exact y0|refine y1 ?_|refine y2 ?_ ?_|(refine y8 ?_ ?_<;>intro h<;>try exact y6)|refine y3 ?_|refine y7 ?_ ?_|refine y4 ?_|(refine y9 ?_ ?_<;>intro h)|exact y5|fail)
   all_goals try first
    |exact aa (by omega) (by omega)
   refine LoopR.same (n1+k,j+1) r ?_ rfl ⟨VLe.of_eq (congrArg nI ?_),VLe.of_eq (congrArg nI ?_),trivial⟩ ⟨rfl,trivial⟩ rfl rfl (by decide)
   ·simp only
    rw[if_neg (Nat.succ_ne_zero n1)]
    split<;>omega
   ·push_cast;rfl
   ·push_cast;omega
set_option maxRecDepth 100000
set_option maxHeartbeats 1000000
inductive Chain (p:List Nd) (f:Nat):Nat->List Nat->Prop
 |nil:Chain p f f []
 |cons {j e:Nat} {l:List Nat} (h:Ends p e 1 j) (r:Chain p f e l):Chain p f j (j::l)
def mY (l:List Nat):S:=.frz (fun k=>[.int .i64 ((l.getD k 0:Nat):Int)]) 1 l.length
abbrev qR (l:List Nat):List S:=l.map fun (j:Nat)=>S.int .i64 (j:Int)
def chS:List Nat->S
 |[]=> .slc (some (1,0)) 0 (some 8)
 |_::l=> .sla 1 2 (l.length+1)
def chB:List Nat->Bl
 |[]=>{cells:=List.replicate 8 (.int .i64 0),ty:=3,sym:=true,flat:=true}
 |j::l=>{cells:=qR (j::l),ty:=3,more:=true,sym:=true,flat:=true,gh:=some (2,1)}
theorem z_ {l:List Nat} {k j:Nat} {x:S} (hk:k<l.length) (hx:[S.int .i64 ((l.getD k 0:Nat):Int)][j]? =some x):(qR l)[k*1+j]? =some x/\aY x=true:=by
 cases j with
 |succ j=>simp at hx
 |zero=>
  simp only[List.getElem?_cons_zero,Option.some.injEq] at hx;subst hx;rw[Nat.mul_one,Nat.add_zero,List.getElem?_map,List.getElem?_eq_getElem hk,List.getD_eq_getElem?_getD,List.getElem?_eq_getElem hk];exact⟨rfl,rfl⟩
theorem ef (p:List Nd) (hp:p.length<=2048) (i f:Nat) (hi:i<p.length) (cs:List Nat) (hk:(p.getD i dN).kids=(cs.length:Nat)) (hc:Chain p f (i+1) cs) (hl:cs.length<=2048):
 FC Tryz.prog 228 [.s (.ptr (some (0,0))),nI i] 1 (anP p) (.s (mY cs)) 1 (anP p):=by
 refine FC.walk (by kernel_rfl) Tryz.func228 rfl rfl ?_
 repeat'(first|exact y0|refine y1 ?_|refine y2 ?_ ?_|(refine y8 ?_ ?_<;>intro h<;>try exact y6)|refine y3 ?_|refine y7 ?_ ?_|refine y4 ?_|(refine y9 ?_ ?_<;>intro h)|exact y5|fail)
 refine RegX.opA [.idx 0,.idx 8] rfl rfl ⟨rfl,rfl,by decide,?_,by decide⟩ ?_
 ·rw[show (Tryz.prog.types[3]).bytes=8 by kernel_rfl];decide
 repeat'(first|exact y0|refine y1 ?_|refine y2 ?_ ?_|(refine y8 ?_ ?_<;>intro h<;>try exact y6)|refine y3 ?_|refine y7 ?_ ?_|refine y4 ?_|(refine y9 ?_ ?_<;>intro h)|exact y5|fail)
 refine Ex.set 7 .any (VLe.any _) rfl (Ex.upN (n':=3) (by omega) ?_);refine Ex.inv (σ:=List Nat×Nat×List Nat) (fun x=>[(5,.s (chS x.1)),(6,nI x.2.1),(18,nI x.1.length)]) (fun x=>(0,some {cells:=[.frz (fun k=>ndC (p.getD k dN)) 4 p.length],ty:=186,more:=true,ro:=true})::(1,some (chB x.1))::[]) (fun x=>x.1++x.2.2=cs/\Chain p f x.2.1 x.2.2) (fun x=>x.2.2.length) ([],i+1,cs) rfl (fun _=>rfl) ⟨rfl,hc⟩ ⟨VLe.refl _,VLe.refl _,VLe.refl _,trivial⟩ ⟨rfl,rfl,trivial⟩ ?_;rintro⟨done,j,rest⟩ ⟨h1,h2⟩;simp only at h1 h2 |-;rw[hk]
 cases h2 with
 |nil=>
  rw[List.append_nil] at h1;subst h1
  cases done with
  |nil=>
   repeat'(first|exact y0|refine y1 ?_|refine y2 ?_ ?_|(refine y8 ?_ ?_<;>intro h<;>try exact y6)|refine Ex.set 4 (.s (mY [])) (VLe.s SLe.slcfrz) rfl ?_|exact⟨.inl rfl,_,[],VLe.refl _,EndOK.by rfl ⟨rfl,trivial⟩ rfl rfl rfl rfl⟩|refine y3 ?_|refine y7 ?_ ?_|refine y4 ?_|(refine y9 ?_ ?_<;>intro h)|exact y5|fail)
  |cons d l=>
   repeat'(first|exact y0|refine y1 ?_|refine y2 ?_ ?_|(refine y8 ?_ ?_<;>intro h<;>try exact y6)|refine Ex.fz 4 (fun k=>[.int .i64 (((d::l).getD k 0:Nat):Int)]) 1 rfl rfl rfl rfl (fun _ _=>rfl) ?_ rfl rfl ?_|exact⟨.inl rfl,_,[],VLe.refl _,EndOK.by rfl ⟨rfl,trivial⟩ rfl rfl rfl rfl⟩|refine y3 ?_|refine y7 ?_ ?_|refine y4 ?_|(refine y9 ?_ ?_<;>intro h)|exact y5|fail)
   exact fun k j x hk hx=>z_ hk hx
 | @cons _ e rest he r=>
   have hlen:done.length+(rest.length+1)=cs.length:=by rw[<-h1];simp
   have hsz:(Tryz.prog.types[3]).size=1:=by kernel_rfl
   have hby:(Tryz.prog.types[3]).bytes=8:=by kernel_rfl
   have hend:=AB p hp j e he
   cases done with
   |nil=>
    repeat'(first|exact y0|refine y1 ?_|refine y2 ?_ ?_|(refine y8 ?_ ?_<;>intro h<;>try exact y6)|refine RegX.app [.app 1 (qR [j])] rfl rfl ?_ rfl rfl rfl ?_|refine RegX.atCall (cm hend ?_)|refine y3 ?_|refine y7 ?_ ?_|refine y4 ?_|(refine y9 ?_ ?_<;>intro h)|exact y5|fail)
    all_goals try first
     |(rw[hsz];exact Nat.le_refl _)
     |(rw[hby];omega)
    refine LoopR.move ([j],e,rest) ⟨by simpa using h1,r⟩ (by simp) [0,4,5] rfl ?_ ?_ rfl
    ·repeat' (first|exact VLe.refl _|exact VLe.any _|exact True.intro|refine⟨?_,?_⟩)
    ·exact⟨rfl,rfl,trivial⟩
   |cons d l=>
    have hlen':l.length+1+(rest.length+1)=cs.length:=hlen
    repeat'(first|exact y0|refine y1 ?_|refine y2 ?_ ?_|(refine y8 ?_ ?_<;>intro h<;>try exact y6)|refine RegX.app [.app ((l++[j]).length+1) (qR (d::l++[j]))] rfl rfl ?_ rfl rfl rfl ?_|refine RegX.atCall (cm hend ?_)|refine y3 ?_|refine y7 ?_ ?_|refine y4 ?_|(refine y9 ?_ ?_<;>intro h)|exact y5|fail)
    all_goals try first
     |(rw[hsz];exact Nat.le_refl _)
     |(simp only[List.length_append,List.length_cons,List.length_nil];done)
     |(rw[hby];simp only[List.length_append,List.length_cons,List.length_nil];omega)
     |(simp only[List.length_append,List.length_cons,List.length_nil];omega)
     |(rw[hsz];show (l.length+1)*1<=(qR (d::l)).length;simp)
     |(rw[hsz];show qR (d::l++[j])=List.take ((l.length+1)*1) (qR (d::l))++_;rw[List.take_of_length_le (by simp),qR,List.map_append];rfl)
     |(unfold aR;rfl)
    refine LoopR.move (d::l++[j],e,rest) ⟨by simpa using h1,r⟩ (by simp) [0,4,5] rfl ?_ ?_ rfl
    ·repeat' (first|exact VLe.refl _|exact VLe.any _|exact True.intro|exact VLe.of_eq (congrArg nI (by simp))|refine⟨?_,?_⟩)
    ·exact⟨rfl,rfl,trivial⟩
set_option maxRecDepth 100000
set_option maxHeartbeats 1000000
theorem iH (p:List Nd) (hw:wfN p) (i:Nat) (hi:i<p.length):
 FC Tryz.prog 178 [.s (.ptr (some (0,0))),nI i] 1 (anP p) (ptV (aq (p.getD i dN).str).1) 1 (anP p):=by
 have hpp:=dY (p.getD i dN).str (nM hw i);refine FC.walk (by kernel_rfl) Tryz.func178 rfl rfl ?_
 repeat'(first|exact y0|refine y1 ?_|refine y2 ?_ ?_|(refine y8 ?_ ?_<;>intro h<;>try exact y6)|(refine wC ?_;first|refine wF 48 (pu hpp ?_))|exact⟨.inl rfl,_,[],VLe.refl _,EndOK.by rfl ⟨rfl,trivial⟩ rfl rfl rfl rfl⟩|refine y3 ?_|refine y7 ?_ ?_|refine y4 ?_|(refine y9 ?_ ?_<;>intro h)|exact y5|fail)
inductive Fo where
 |nil
 |cons (x:Nd) (k n:Fo)
def Fo.flat:Fo->List Nd
 | .nil=>[]
 | .cons x k n=>x::(k.flat++n.flat)
def Fo.cnt:Fo->Nat
 | .nil=>0
 | .cons _ _ n=>n.cnt+1
def Fo.size:Fo->Nat
 | .nil=>0
 | .cons _ k n=>1+k.size+n.size
def Fo.dep:Fo->Nat
 | .nil=>0
 | .cons _ k n=>max (1+k.dep) n.dep
def Fo.At (p:List Nd):Fo->Nat->Prop
 | .nil,_=>True
 | .cons x k n,i=>p[i]? =some x/\x.kids=(k.cnt:Int)/\k.At p (i+1)/\n.At p (i+1+k.size)
def fG (ks:By):List (Bool×Int):=ks.map fun c=>(fv (c.toNat:Int),(c.toNat:Int))
def Fo.V:Fo->List (Bool×Int)->Prop
 | .nil,[]=>True
 | .cons x k n,(true,c)::cs=>(x.op=4/\x.int=0/\x.str=[])/\k.V (List.replicate k.cnt (false,c))/\n.V cs
 | .cons x k n,(false,c)::cs=>(dI c x.op=true/\bc x c=true/\(aD x.op x.kids).2=true)/\k.V (fG (aD x.op x.kids).1)/\n.V cs
 |_,_=>False
theorem Fo.V_cnt:∀ {t:Fo} {cs:List (Bool×Int)},t.V cs->t.cnt=cs.length
 | .nil,[],_=>rfl
 | .nil,_::_,h=>h.elim
 | .cons x k n,[],h=>by simp[V] at h
 | .cons x k n,(true,c)::cs,h=>by simp only[cnt,List.length_cons,V_cnt h.2.2]
 | .cons x k n,(false,c)::cs,h=>by simp only[cnt,List.length_cons,V_cnt h.2.2]
theorem Fo.cnt_le:∀ t:Fo,t.cnt<=t.size
 | .nil=>Nat.le_refl _
 | .cons x k n=>by have:=cnt_le n;simp only[cnt,size];omega
def pG (p:List Nd) (sl:Bool×Int) (f i e:Nat):Prop:=∃ x k,(Fo.cons x k .nil).At p i/\(Fo.cons x k .nil).V [sl]/\k.dep<f/\e=i+1+k.size
def ForestAt (p:List Nd) (cs:List (Bool×Int)) (f i e:Nat):Prop:=∃ t:Fo,t.At p i/\t.V cs/\t.dep<=f/\e=i+t.size
theorem ForestAt.cons {p:List Nd} {sl:Bool×Int} {cs:List (Bool×Int)} {f i e e':Nat} (h:pG p sl f i e) (r:ForestAt p cs f e e'):ForestAt p (sl::cs) f i e':=by
 obtain⟨x,k,h1,h2,h3,rfl⟩:=h;obtain⟨t,r1,r2,r3,rfl⟩:=r;refine⟨.cons x k t,⟨h1.1,h1.2.1,h1.2.2.1,r1⟩,?_,?_,?_⟩
 ·obtain⟨b,c⟩:=sl
  cases b
  ·exact⟨h2.1,h2.2.1,r2⟩
  ·exact⟨h2.1,h2.2.1,r2⟩
 ·simp only[Fo.dep];omega
 ·simp only[Fo.size];omega
theorem ForestAt.nil (p:List Nd) (f i:Nat):ForestAt p [] f i i:=⟨.nil,trivial,trivial,Nat.zero_le _,rfl⟩
theorem ForestAt.block {p:List Nd} {sl:Bool×Int} {f:Nat} {rec:Nat->Option Nat} (hr:∀ i e,rec i=some e->pG p sl f i e):∀ (k i e:Nat),bI rec k i=some e->ForestAt p (List.replicate k sl) f i e
 |0,i,e,h=>by simp only[bI,Option.some.injEq] at h;subst h;exact ForestAt.nil ..
 |k+1,i,e,h=>by
  simp only[bI] at h;split at h
  ·rename_i e1 h1
   exact ForestAt.cons (hr _ _ h1) (ForestAt.block hr k e1 e h)
  ·cases h
theorem ForestAt.kids {p:List Nd} {f:Nat} {ch:Int->Nat->Option Nat} (hch:∀ k i e,ch k i=some e->pG p (fv k,k) f i e):∀ (ks:By) (i e:Nat),cN ch ks i=some e->ForestAt p (fG ks) f i e
 |[],i,e,h=>by simp only[cN,Option.some.injEq] at h;subst h;exact ForestAt.nil ..
 |k::ks,i,e,h=>by
  simp only[cN] at h;split at h
  ·rename_i e1 h1
   exact ForestAt.cons (hch _ _ _ h1) (ForestAt.kids hch ks e1 e h)
  ·cases h
def TreeP (p:List Nd) (f:Nat) (E:Nat->Int->Option Nat):Prop:=∀ i k e,E i k=some e->pG p (false,k) f i e
theorem TreeP.elemS {p:List Nd} {ok:Bool} {f:Nat} {E0 E1:Nat->Int->Option Nat} (h0:TreeP p f E0) (h1:ok=true->TreeP p (f-1) E1) (hf:ok=true->1<=f):TreeP p (f+1) (elemS p ok E0 E1):=by
 intro i k e h;unfold Go.Proofs.YtegjgpldfgjoiaaGreatDoor.elemS at h;split at h
 ·cases h
 ·rename_i x hx
  split at h
  ·rename_i hc
   have hk:=mX _ _ hc.2.2
   obtain⟨t,t1,t2,t3,t4⟩:=ForestAt.kids (p:=p) (f:=f) (fun k i e hch=>(by
    unfold b_ at hch;split at hch
    ·rename_i hb
     split at hch
     ·cases hch
     ·rename_i y hy
      split at hch
      ·rename_i hyb
       obtain⟨b1,b2,b3,b4,b5⟩:=hyb;obtain⟨t,t1,t2,t3,t4⟩:=ForestAt.block (fun i e h=>h1 b1 i k e h) _ _ _ hch;have hcnt:=Fo.V_cnt t2;rw[List.length_replicate] at hcnt;rw[hb];refine⟨y,t,⟨hy,by rw[hcnt];omega,t1,trivial⟩,⟨⟨b2,b3,b4⟩,by rw[hcnt];exact t2,trivial⟩,?_,by omega⟩;have:=hf b1;omega
      ·cases hch
    ·rename_i hb
     have hb:fv k=false:=by simpa using hb
     rw[hb]
     exact h0 i k e hch)) _ _ _ h
   have hcnt:=Fo.V_cnt t2;rw[fG,List.length_map] at hcnt;exact⟨x,t,⟨hx,by rw[hcnt,hk],t1,trivial⟩,⟨hc,t2,trivial⟩,by omega,by omega⟩
  ·cases h
theorem TreeP.elemF {p:List Nd}:∀ f,TreeP p f (Go.Proofs.YtegjgpldfgjoiaaGreatDoor.elemF p f)/\TreeP p (f+1) (Go.Proofs.YtegjgpldfgjoiaaGreatDoor.elemF p (f+1))
 |0=>by
  refine⟨fun i k e h=>(by cases h),?_⟩;rw[cZ];exact TreeP.elemS (fun i k e h=>by cases h) (fun h=>by simp at h) (fun h=>by simp at h)
 |f+1=>by
  have ih:=TreeP.elemF (p:=p) f;refine⟨ih.2,?_⟩;rw[cZ];exact TreeP.elemS ih.2 (fun _=>ih.1) (fun _=>by omega)
theorem kW {p:List Nd}:∀ (n i:Nat),i<=p.length->mA p n i=true->∃ t:Fo,t.At p i/\t.V (List.replicate t.cnt (false,68))/\t.dep<=32/\p.length=i+t.size
 |0,i,_,h=>by cases h
 |n+1,i,hi,h=>by
  simp only[mA] at h;split at h
  ·rename_i hlt
   split at h
   ·rename_i e he
    obtain⟨x,k,h1,h2,h3,h4⟩:=(TreeP.elemF (p:=p) 32).1 i 68 e he;obtain⟨t,t1,t2,t3,t4⟩:=kW n e (bR he).2 h;subst h4;refine⟨.cons x k t,⟨h1.1,h1.2.1,h1.2.2.1,t1⟩,⟨h2.1,h2.2.1,t2⟩,?_,?_⟩
    ·simp only[Fo.dep];omega
    ·simp only[Fo.size];omega
   ·cases h
  ·rename_i hge
   exact⟨.nil,trivial,trivial,Nat.zero_le _,by simp only[Fo.size];omega⟩
theorem dQ {p:List Nd} (h:bz p=true):p.length<=2048/\∃ t:Fo,t.At p 0/\t.V (List.replicate t.cnt (false,68))/\t.dep<=32/\t.size=p.length:=by
 unfold bz at h;simp only[Bool.and_eq_true,decide_eq_true_eq] at h;obtain⟨t,t1,t2,t3,t4⟩:=kW _ 0 (Nat.zero_le _) h.2;exact⟨h.1,t,t1,t2,t3,by omega⟩
theorem At.lt {p:List Nd} {x:Nd} {k n:Fo} {i:Nat} (h:(Fo.cons x k n).At p i):i<p.length:=by
 rcases Nat.lt_or_ge i p.length with q|q
 ·exact q
 ·have:=h.1;rw[List.getElem?_eq_none q] at this;cases this
theorem At.get {p:List Nd} {x:Nd} {k n:Fo} {i:Nat} (h:(Fo.cons x k n).At p i):p.getD i dN=x:=by
 rw[List.getD_eq_getElem?_getD,h.1];rfl
theorem At.ends {p:List Nd}:∀ {t:Fo} {i m e:Nat},t.At p i->Ends p e m (i+t.size)->Ends p e (m+t.cnt) i
 | .nil,i,m,e,_,r=>r
 | .cons x k n,i,m,e,h,r=>by
   have hk:(p.getD i dN).kids=(k.cnt:Nat):=by rw[At.get h];exact h.2.1
   have r1:Ends p e (m+n.cnt) (i+1+k.size):=At.ends h.2.2.2 (by simp only[Fo.size] at r;rw[show i+1+k.size+n.size=i+(1+k.size+n.size) by omega];exact r);have r2:Ends p e (m+n.cnt+k.cnt) (i+1):=At.ends h.2.2.1 r1;exact Ends.step (At.lt h) k.cnt hk r2
theorem At.ends1 {p:List Nd} {x:Nd} {k n:Fo} {i:Nat} (h:(Fo.cons x k n).At p i):Ends p (i+1+k.size) 1 i:=by
 have h1:(Fo.cons x k .nil).At p i:=⟨h.1,h.2.1,h.2.2.1,trivial⟩
 have:=At.ends (m:=0) (e:=i+1+k.size) h1 (by simp only[Fo.size];rw[show i+(1+k.size+0)=i+1+k.size by omega];exact Ends.done)
 simpa [Fo.cnt] using this
def Fo.starts:Fo->Nat->List Nat
 | .nil,_=>[]
 | .cons _ k n,i=>i::n.starts (i+1+k.size)
theorem bX:∀ (t:Fo) (i:Nat),(t.starts i).length=t.cnt
 | .nil,_=>rfl
 | .cons x k n,i=>by simp only[Fo.starts,List.length_cons,bX n,Fo.cnt]
theorem At.chain {p:List Nd}:∀ {t:Fo} {i:Nat},t.At p i->Chain p (i+t.size) i (t.starts i)
 | .nil,i,_=>Chain.nil
 | .cons x k n,i,h=>by
   refine Chain.cons (At.ends1 h) ?_;have:=At.chain h.2.2.2;simp only[Fo.size];rw[show i+1+k.size+n.size=i+(1+k.size+n.size) by omega] at this;exact this
theorem At.size_le {p:List Nd}:∀ {t:Fo} {i:Nat},i<=p.length->t.At p i->i+t.size<=p.length
 | .nil,i,hi,_=>hi
 | .cons x k n,i,hi,h=>by
   have h1:=At.lt h;have h2:=At.size_le h1 h.2.2.1;have:=At.size_le h2 h.2.2.2;simp only[Fo.size];omega
end Go.Proofs.YtegjgpldfgjoiaaGreatDoor
namespace Go.Proofs.YtegjgpldfgjoiaaGreatDoor
open Go.Shelf Go.RowKit
def Tryz.lays156_ren:Go.Shelf.Ren:=⟨fun|156=>98|165=>161|166=>162|169=>164|240=>216|241=>217|276=>249|277=>250|n=>n,fun|31=>23|9=>9|3=>3|4=>4|0=>0|20=>20|72=>222|76=>225|70=>219|37=>220|75=>224|127=>273|164=>289|5=>5|80=>42|n=>n,fun|n=>n⟩
theorem Tryz.lays156:Go.Proofs.Lays.n156 Tryz.prog Tryz.lays156_ren:={
 mixed:=by kernel_rfl
 f156:=Tryz.func98.trans (congrArg some (by kernel_rfl))
 f165:=Tryz.func161.trans (congrArg some (by kernel_rfl))
 f166:=Tryz.func162.trans (congrArg some (by kernel_rfl))
 f169:=Tryz.func164.trans (congrArg some (by kernel_rfl))
 f240:=Tryz.func216.trans (congrArg some (by kernel_rfl))
 f241:=Tryz.func217.trans (congrArg some (by kernel_rfl))
 f276:=Tryz.func249.trans (congrArg some (by kernel_rfl))
 f277:=Tryz.func250.trans (congrArg some (by kernel_rfl))
 t0:=Tryz.underlying0
 a0:=Tryz.isAgg0
 z0:=Tryz.sizeOf0
 v0:=Tryz.zeroValue0
 t3:=Tryz.underlying3
 a3:=Tryz.isAgg3
 z3:=Tryz.sizeOf3
 v3:=Tryz.zeroValue3
 t4:=Tryz.underlying4
 a4:=Tryz.isAgg4
 z4:=Tryz.sizeOf4
 v4:=Tryz.zeroValue4
 t9:=Tryz.underlying9
 a9:=Tryz.isAgg9
 z9:=Tryz.sizeOf9
 v9:=Tryz.zeroValue9
 t20:=Tryz.underlying20
 a20:=Tryz.isAgg20
 z20:=Tryz.sizeOf20
 v20:=Tryz.zeroValue20
 t31:=Tryz.underlying23
 a31:=Tryz.isAgg23
 z31:=Tryz.sizeOf23
 v31:=Tryz.zeroValue23
 t37:=Tryz.underlying220
 a37:=Tryz.isAgg220
 z37:=Tryz.sizeOf220
 v37:=Tryz.zeroValue220
 t70:=Tryz.underlying219
 a70:=Tryz.isAgg219
 z70:=Tryz.sizeOf219
 v70:=Tryz.zeroValue219
 t72:=Tryz.underlying222
 a72:=Tryz.isAgg222
 z72:=Tryz.sizeOf222
 v72:=Tryz.zeroValue222
 t75:=Tryz.underlying224
 a75:=Tryz.isAgg224
 z75:=Tryz.sizeOf224
 v75:=Tryz.zeroValue224
 t76:=Tryz.underlying225
 a76:=Tryz.isAgg225
 z76:=Tryz.sizeOf225
 v76:=Tryz.zeroValue225
 t127:=Tryz.underlying273
 a127:=Tryz.isAgg273
 z127:=Tryz.sizeOf273
 v127:=Tryz.zeroValue273
 t164:=Tryz.underlying289
 a164:=Tryz.isAgg289
 z164:=Tryz.sizeOf289
 v164:=Tryz.zeroValue289}
theorem Tryz.Builder_Extra_156:Builder.Extra Tryz.prog Tryz.lays156_ren:={
 sizeBuilder:=by kernel_rfl
 liesBuilder:=by kernel_rfl
 t5:=Tryz.underlying5
 a5:=Tryz.isAgg5
 z5:=Tryz.sizeOf5
 v5:=Tryz.zeroValue5
 infoByte:=by kernel_rfl
 cellsByte:=by kernel_rfl
 sizeByte:=by kernel_rfl
 neB5:=by decide}
open Go.RowKit in
theorem Tryz.strings_Join_none (a:Option Addr) (c:Nat) (sep:ByteArray) (w:World):
 Calls Tryz.prog 98 #[.slice a 0 c,.string sep] w fun e w'=>e=.returned (.string ⟨#[]⟩)/\w'=w:=Any.strings_Join_none Tryz.lays156 Tryz.Builder_Extra_156 a c sep w
open Go.RowKit in
theorem Tryz.strings_Join (bk o c:Nat) (xs:List ByteArray) (sep:ByteArray) (w:World) (hcells:∀ (j:Nat) x,xs[j]? =some x->w.cell? ⟨bk,o+j,none⟩=some (.string x)) (hbk:bk<w.heap.size) (hN:xs.length<=140737488355328) (hcap:xs.length<=c) (hlen:(Lib.join (xs.map (·.data.toList)) sep.data.toList).length<=140737488355328):
 Calls Tryz.prog 98 #[.slice (some ⟨bk,o,none⟩) xs.length c,.string sep] w fun e w'=>e=.returned (.string ⟨(Lib.join (xs.map (·.data.toList)) sep.data.toList).toArray⟩)/\Below w.heap.size w w':=Any.strings_Join Tryz.lays156 Tryz.Builder_Extra_156 bk o c xs sep w hcells hbk hN hcap hlen
end Go.Proofs.YtegjgpldfgjoiaaGreatDoor
namespace Go.Proofs.YtegjgpldfgjoiaaGreatDoor
open Go Ab
set_option maxRecDepth 100000
set_option maxHeartbeats 1000000
theorem B9 (l:List By) (sep:By) (hN:l.length<=140737488355328) (hlen:(Lib.join l sep).length<=140737488355328):FC Tryz.prog 98 [.s (aJ l),sV sep] 0 [] (sV (Lib.join l sep)) 0 []:=by
 refine FC.below (by kernel_rfl) fun φ xs w hx hg=>?_
 match xs,hx with
 |[a,b],⟨h1,h2,_⟩=>
  have h2:b=.string ⟨sep.toArray⟩:=h2;subst h2;have h1:Pr φ.z (aJ l) a:=h1;unfold aJ at h1;generalize hn:l.length=n at h1
  cases h1 with
  |nil _ _ ad k hk=>
   have hl:l=[]:=List.length_eq_zero_iff.1 hn;subst hl;refine (Tryz.strings_Join_none ad k ⟨sep.toArray⟩ w).mono ?_;rintro e w' ⟨rfl,rfl⟩;exact⟨_,rfl,fun _ _=>rfl,Go.RowKit.Below.refl _ _⟩
  |frz _ _ _ bk o k vs hz hle val hl hv hpx=>
   obtain⟨⟨ty,fr,hb⟩,_⟩:=hg.fz bk vs hz
   have hcell:∀ (j:Nat) x,(l.map fun s=>(⟨s.toArray⟩:ByteArray))[j]? =some x->w.cell? ⟨bk,o+j,none⟩=some (.string x):=by
    intro j x hj;rw[List.getElem?_map] at hj
    have hjl:j<l.length:=by
     rcases Nat.lt_or_ge j l.length with q|q
     ·exact q
     ·rw[List.getElem?_eq_none q] at hj;cases hj
    rw[List.getElem?_eq_getElem hjl] at hj;simp only[Option.map_some,Option.some.injEq] at hj;have e0:([S.str (l.getD j [])]:List S)[0]? =some (.str (l.getD j [])):=rfl;have h3:=hv j 0 _ (by omega) e0;have h4:=hpx j 0 _ (by omega) e0
    have h5:val j 0=.string ⟨(l.getD j []).toArray⟩:=by
     generalize val j 0=y at h4;cases h4;rfl
    rw[Nat.mul_one,Nat.add_zero,h5] at h3;simp only[World.cell?,hb,Option.isSome_none,Bool.false_eq_true,if_false,List.getElem?_toArray];rw[h3,<-hj,List.getD_eq_getElem?_getD,List.getElem?_eq_getElem hjl];rfl
   have hmap:(l.map fun s=>(⟨s.toArray⟩:ByteArray)).map (·.data.toList)=l:=by rw[List.map_map];simp[Function.comp_def]
   have:=Tryz.strings_Join bk o k (l.map fun s=>(⟨s.toArray⟩:ByteArray)) ⟨sep.toArray⟩ w hcell (hg.fzlt hz) (by simpa using hN) (by simp;omega) (by rw[hmap];simpa using hlen);rw[hmap,List.length_map,hn] at this;refine this.mono ?_;rintro e w' ⟨rfl,hbl⟩;exact⟨_,rfl,fun _ _=>rfl,hbl⟩
theorem vO (s:By):FC Tryz.prog 97 [sV s,nI 0] 0 [] (sV []) 0 []:=by
 refine FC.walk (by kernel_rfl) Tryz.func97 rfl rfl ?_
 repeat'(first|exact y0|refine y1 ?_|refine y2 ?_ ?_|(refine y8 ?_ ?_<;>intro h<;>try exact y6)|refine Fin.str (.inl rfl) rfl rfl|refine y3 ?_|refine y7 ?_ ?_|refine y4 ?_|(refine y9 ?_ ?_<;>intro h)|exact y5|fail)
def aL (p:Pth):By:=if aC p then (if p.root then [92] else List.replicate p.up.toNat 94)++Lib.join p.segs [46] else []
theorem eX {s:By} (h:aG s=true):1<=s.length/\s.length<=4:=by
 unfold aG at h;simp only[Bool.and_eq_true,decide_eq_true_eq] at h;exact h.1
theorem iR:∀ {l:List By},l.all aG=true->(Lib.join l [46]).length<=5*l.length
 |[],_=>by simp[Lib.join]
 |[x],h=>by
  simp only[List.all_cons,List.all_nil,Bool.and_true] at h;have:=eX h;simp[Lib.join];omega
 |x::y::l,h=>by
  have h1:aG x=true/\(y::l).all aG=true:=by simpa using h
  have:=eX h1.1;have ih:=iR h1.2
  have e:Lib.join (x::y::l) [46]=x++46::Lib.join (y::l) [46]:=by simp[Lib.join,List.intercalate]
  rw[e];simp only[List.length_append,List.length_cons] at ih |-;omega
theorem GM (up:Int) (segs:List By):FC Tryz.prog 50 [.agg [.bool true,.int .i64 up,aJ segs]] 0 [] (sV (aL ⟨true,up,segs⟩)) 0 []:=by
 have hv:=dh true up segs;refine FC.walk (by kernel_rfl) Tryz.func50 rfl rfl ?_
 cases h1:aC ⟨true,up,segs⟩<;>rw[h1] at hv
 ·
  repeat'(first|exact y0|refine y1 ?_|refine y2 ?_ ?_|(refine y8 ?_ ?_<;>intro h<;>try exact y6)|(refine wC ?_;first|refine wF 93 (bo hv ?_))|refine Fin.str (.inl rfl) rfl ?_|refine y3 ?_|refine y7 ?_ ?_|refine y4 ?_|(refine y9 ?_ ?_<;>intro h)|exact y5|fail)
  unfold aL;rw[h1];rfl
 ·
  obtain⟨v1,v2,v3,v4,v5,v6⟩:=aS h1;simp only at v1 v2 v3 v4 v5 v6;have hu:=v4 trivial;subst hu;have hjl:=iR v5;have hj:=B9 segs [46] (by omega) (by omega);have hr:=vO [94]
  repeat'(first|exact y0|refine y1 ?_|refine y2 ?_ ?_|(refine y8 ?_ ?_<;>intro h<;>try exact y6)|(refine wC ?_;first|refine wF 93 (bo hv ?_)|refine wF 97 (pu hr ?_)|refine wF 98 (pu hj ?_))|refine Fin.str (.inl rfl) rfl ?_|refine y3 ?_|refine y7 ?_ ?_|refine y4 ?_|(refine y9 ?_ ?_<;>intro h)|exact y5|fail)
  ·show ((1+(Lib.join segs [46]).length:Nat):Int)<=9223372036854775807
   omega
  ·unfold aL;rw[h1];rfl
theorem lV (p:Pth) (h:p.root=true):FC Tryz.prog 50 [ptV p] 0 [] (sV (aL p)) 0 []:=by
 obtain⟨r,u,s⟩:=p;simp only at h;subst h;exact GM u s
end Go.Proofs.YtegjgpldfgjoiaaGreatDoor
