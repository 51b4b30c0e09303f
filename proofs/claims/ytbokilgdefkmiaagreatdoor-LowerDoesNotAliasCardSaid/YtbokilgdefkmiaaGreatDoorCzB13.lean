import Derived.Test.YtbokilgdefkmiaaGreatDoorCzB12
import Derived.Below
set_option linter.unusedSimpArgs false
set_option linter.unusedVariables false
namespace Go.Proofs.YtbokilgdefkmiaaGreatDoor
open Go Ab
set_option maxRecDepth 100000
set_option maxHeartbeats 1000000
def ptsF (l:List Pth):S:=.frz (fun k=>ptC (l.getD k z0)) 3 l.length
def scP (bs:List By) (live:Bool) (k:Nat):Pth:=if live then ⟨true,0,bs.take k⟩ else z0
def candL (bs:List By) (s:By):Nat→List Pth
 |0=>[⟨true,0,[s]⟩]
 |k+1=>if 32<k+2 then candL bs s k else ⟨true,0,bs.take (k+1)++[s]⟩::candL bs s k
def candP (b r:Pth):List Pth:=
 if absP b=false∨validP r=false then []
 else if r.root=true∨0<r.up∨r.segs.length≠1 then (if (joinP b r).2 then [(joinP b r).1] else [])
 else candL b.segs (r.segs.headD []) b.segs.length
def resS:List Pth→S
 |[]=> .slc none 0 (some 0)
 |p::l=> .sla 3 4 (l.length+1)
def resH:List Pth→Hp
 |[]=>[]
 |p::l=>[(3,some {cells:=(p::l).flatMap ptC,ty:=138,more:=true,sym:=true,flat:=true,gh:=some (4,3)})]
theorem ptC_pure {p:Pth} {j:Nat} {x:S} (h:(ptC p)[j]? =some x):pureS x=true:=by
 unfold ptC at h
 match j,h with
 |0,h=>cases h;rfl
 |1,h=>cases h;rfl
 |2,h=>cases h;rfl
 |j+3,h=>simp at h
theorem pts_get:∀ {l:List Pth} {k j:Nat} {x:S},k<l.length→(ptC (l.getD k z0))[j]? =some x→(l.flatMap ptC)[k*3+j]? =some x∧pureS x=true
 |[],k,j,x,hk,_=>by simp at hk
 |p::l,0,j,x,hk,hx=>by
  refine⟨?_,ptC_pure hx⟩
  have hj:j<(ptC p).length:=by
   rcases Nat.lt_or_ge j (ptC p).length with h|h
   ·exact h
   ·exfalso;simp only[List.getD_cons_zero] at hx;rw[List.getElem?_eq_none h] at hx;cases hx
  rw[Nat.zero_mul,Nat.zero_add,List.flatMap_cons,List.getElem?_append_left hj];exact hx
 |p::l,k+1,j,x,hk,hx=>by
  have:=pts_get (l:=l) (k:=k) (j:=j) (x:=x) (by simpa using hk) hx;refine⟨?_,this.2⟩;rw[List.flatMap_cons,List.getElem?_append_right (by simp[ptC];omega)];rw[show (k+1)*3+j-(ptC p).length=k*3+j by simp[ptC];omega];exact this.1
theorem pts_one (p:Pth):∀ (k j:Nat) (x:S),k<1→(ptC ([p].getD k z0))[j]? =some x→(ptC p)[k*3+j]? =some x∧pureS x=true:=by
 intro k j x hk hx;have:=pts_get (l:=[p]) (k:=k) (j:=j) (x:=x) hk hx
 simpa using this
theorem abs_take {bs:List By} {k:Nat} (h:absP ⟨true,0,bs⟩=true):absP ⟨true,0,bs.take k⟩=true:=by
 unfold absP validP at*;simp only[Bool.and_eq_true,decide_eq_true_eq,Bool.true_and,Bool.true_or,Bool.and_true,List.all_eq_true,List.length_take] at*;obtain⟨⟨⟨⟨h1,h2⟩,h3⟩,h4⟩,h5⟩:=h;refine⟨⟨⟨⟨h1,h2⟩,h3⟩,by omega⟩,fun x hx=>h5 x (List.mem_of_mem_take hx)⟩
theorem join_take {bs:List By} {s0:By} {k:Nat} (h:absP ⟨true,0,bs⟩=true) (hv:validP ⟨false,0,[s0]⟩=true) (hk:k≤bs.length):joinP ⟨true,0,bs.take k⟩ ⟨false,0,[s0]⟩=if 32<k+1 then (z0,false) else (⟨true,0,bs.take k++[s0]⟩,true):=by
 have h1:=abs_take (k:=k) h
 have hl:(bs.take k).length=k:=by rw[List.length_take];omega
 unfold joinP;rw[if_neg (by simp[h1,hv]),if_neg (by simp)];simp only[hl,List.length_singleton];by_cases h32:32<k+1
 ·rw[if_pos h32,if_pos (by omega)]
 ·rw[if_neg h32,if_neg (by omega),Int.sub_zero,Int.toNat_natCast,List.take_take,Nat.min_self]
theorem parent_take {bs:List By} {k:Nat} (h:absP ⟨true,0,bs⟩=true) (hk:k≤bs.length):parentP ⟨true,0,bs.take k⟩=if k=0 then (z0,false) else (⟨true,0,bs.take (k-1)⟩,true):=by
 have h1:=abs_take (k:=k) h
 have hl:(bs.take k).length=k:=by rw[List.length_take];omega
 unfold parentP;simp only[h1,hl];by_cases hk0:k=0
 ·rw[if_pos hk0,if_pos (.inr hk0)]
 ·rw[if_neg hk0,if_neg (by simp[hk0]),List.take_take,Nat.min_eq_left (by omega)]
theorem flat_len:∀ l:List Pth,(l.flatMap ptC).length=l.length*3
 |[]=>rfl
 |p::l=>by rw[List.flatMap_cons,List.length_append,flat_len l];simp only[List.length_cons];simp[ptC];omega
theorem candL_len (bs:List By) (s0:By):∀ k,(candL bs s0 k).length≤k+1
 |0=>by simp[candL]
 |k+1=>by
  have:=candL_len bs s0 k;unfold candL;split
  ·omega
  ·simp only[List.length_cons];omega
theorem cand_u (br:Bool) (bu:Int) (bs:List By) (rr:Bool) (ru:Int) (rs:List By):
 FC Tryz.prog 143 [.agg [.bool br,.int .i64 bu,strsF bs],.agg [.bool rr,.int .i64 ru,strsF rs]] 0 [] (.s (ptsF (candP ⟨br,bu,bs⟩ ⟨rr,ru,rs⟩))) 0 []:=by
 have ha:=absP_u br bu bs;have hv:=validP_u rr ru rs;have hj:=join_u br bu bs rr ru rs;refine FC.walk (by kernel_rfl) Tryz.func143 rfl rfl ?_
 cases h1:absP ⟨br,bu,bs⟩<;>rw[h1] at ha
 ·
  repeat'(first|exact y0|refine y1 ?_|refine y2 ?_ ?_|(refine y8 ?_ ?_<;>intro h<;>try exact y6)|(refine wC ?_;first|refine wF 177 (bo ha ?_))|refine Fin.le (.inl rfl) rfl ?_ rfl|refine y3 ?_|refine y7 ?_ ?_|refine y4 ?_|(refine y9 ?_ ?_<;>intro h)|exact y5|fail)
  simp only[candP,h1];exact VLe.s SLe.nil
 cases h2:validP ⟨rr,ru,rs⟩<;>rw[h2] at hv
 ·
  repeat'(first|exact y0|refine y1 ?_|refine y2 ?_ ?_|(refine y8 ?_ ?_<;>intro h<;>try exact y6)|(refine wC ?_;first|refine wF 177 (bo ha ?_)|refine wF 178 (bo hv ?_))|refine Fin.le (.inl rfl) rfl ?_ rfl|refine y3 ?_|refine y7 ?_ ?_|refine y4 ?_|(refine y9 ?_ ?_<;>intro h)|exact y5|fail)
  simp only[candP,h1,h2];exact VLe.s SLe.nil
 obtain⟨a1,a2,a3⟩:=abs_facts h1;obtain⟨v1,v2,v3,v4,v5,v6⟩:=valid_facts h2;simp only at a1 a2 a3 v1 v2 v3 v4 v5 v6;by_cases hc:rr=true∨0<ru∨rs.length≠1
 ·have hcand:candP ⟨br,bu,bs⟩ ⟨rr,ru,rs⟩=if (joinP ⟨br,bu,bs⟩ ⟨rr,ru,rs⟩).2 then [(joinP ⟨br,bu,bs⟩ ⟨rr,ru,rs⟩).1] else []:=by
   unfold candP;rw[if_neg (by simp[h1,h2]),if_pos hc]
  rw[hcand];generalize joinP ⟨br,bu,bs⟩ ⟨rr,ru,rs⟩=j at*;obtain⟨p,ok⟩:=j;cases ok
  ·cases rr
   ·have hc':0<ru∨rs.length≠1:=by simpa using hc
    repeat'(first|exact y0|refine y1 ?_|refine y2 ?_ ?_|(refine y8 ?_ ?_<;>intro h<;>try exact y6)|(refine wC ?_;first|refine wF 177 (bo ha ?_)|refine wF 178 (bo hv ?_)|refine wF 138 (pu hj ?_))|refine Fin.le (.inl rfl) rfl ?_ rfl|refine y3 ?_|refine y7 ?_ ?_|refine y4 ?_|(refine y9 ?_ ?_<;>intro h)|exact y5|fail)
    all_goals exact VLe.s SLe.nil
   ·
    repeat'(first|exact y0|refine y1 ?_|refine y2 ?_ ?_|(refine y8 ?_ ?_<;>intro h<;>try exact y6)|(refine wC ?_;first|refine wF 177 (bo ha ?_)|refine wF 178 (bo hv ?_)|refine wF 138 (pu hj ?_))|refine Fin.le (.inl rfl) rfl ?_ rfl|refine y3 ?_|refine y7 ?_ ?_|refine y4 ?_|(refine y9 ?_ ?_<;>intro h)|exact y5|fail)
    all_goals exact VLe.s SLe.nil
  ·cases rr
   ·have hc':0<ru∨rs.length≠1:=by simpa using hc
    repeat'(first|exact y0|refine y1 ?_|refine y2 ?_ ?_|(refine y8 ?_ ?_<;>intro h<;>try exact y6)|(refine wC ?_;first|refine wF 177 (bo ha ?_)|refine wF 178 (bo hv ?_)|refine wF 138 (pu hj ?_))|refine RegX.app [.app 1 (ptC p)] rfl rfl ?_ rfl rfl rfl ?_|refine Ex.fz 4 (fun k=>ptC ([p].getD k z0)) 3 rfl rfl rfl rfl (fun k _=>rfl) (pts_one p) rfl rfl ?_|refine Fin.le (.inl rfl) rfl ?_ rfl|refine y3 ?_|refine y7 ?_ ?_|refine y4 ?_|(refine y9 ?_ ?_<;>intro h)|exact y5|fail)
    all_goals first
     |exact VLe.refl _
     |(rw[show (Tryz.prog.types[138]).size=3 by kernel_rfl];exact Nat.le_refl _)
     |(rw[show (Tryz.prog.types[138]).bytes=40 by kernel_rfl];omega)
   ·
    repeat'(first|exact y0|refine y1 ?_|refine y2 ?_ ?_|(refine y8 ?_ ?_<;>intro h<;>try exact y6)|(refine wC ?_;first|refine wF 177 (bo ha ?_)|refine wF 178 (bo hv ?_)|refine wF 138 (pu hj ?_))|refine RegX.app [.app 1 (ptC p)] rfl rfl ?_ rfl rfl rfl ?_|refine Ex.fz 4 (fun k=>ptC ([p].getD k z0)) 3 rfl rfl rfl rfl (fun k _=>rfl) (pts_one p) rfl rfl ?_|refine Fin.le (.inl rfl) rfl ?_ rfl|refine y3 ?_|refine y7 ?_ ?_|refine y4 ?_|(refine y9 ?_ ?_<;>intro h)|exact y5|fail)
    all_goals first
     |exact VLe.refl _
     |(rw[show (Tryz.prog.types[138]).size=3 by kernel_rfl];exact Nat.le_refl _)
     |(rw[show (Tryz.prog.types[138]).bytes=40 by kernel_rfl];omega)
 ·have hr:rr=false:=by cases rr<;>simp_all
  have hu:ru=0:=by
   have: ¬0<ru:=fun h=>hc (.inr (.inl h))
   omega
  have hl:rs.length=1:=Classical.not_not.1 fun h=>hc (.inr (.inr h))
  obtain⟨s0,rfl⟩:∃ s0,rs=[s0]:=List.length_eq_one_iff.1 hl;subst hr hu a1 a2
  have hcand:candP ⟨true,0,bs⟩ ⟨false,0,[s0]⟩=candL bs s0 bs.length:=by
   unfold candP;rw[if_neg (by simp[h1,h2]),if_neg (by simp)];rfl
  rw[hcand]
  repeat'(first|exact y0|refine y1 ?_|refine y2 ?_ ?_|(refine y8 ?_ ?_<;>intro h<;>try exact y6)|(refine wC ?_;first|refine wF 177 (bo ha ?_)|refine wF 178 (bo hv ?_))|refine y3 ?_|refine y7 ?_ ?_|refine y4 ?_|(refine y9 ?_ ?_<;>intro h)|exact y5|fail)
  refine Ex.upN (n':=5) (by omega) ?_
  refine Ex.inv (σ:=Bool×Nat×List Pth) (fun x=>[(5,.s (resS x.2.2)),(8,.s (.ptr (some (2,0)))),(9,.s (.bool x.1))])
   (fun x=>(0,some {cells:=[.bool true,.int .i64 0,strsF bs],ty:=138})::(1,some {cells:=[.bool false,.int .i64 0,strsF [s0]],ty:=138})::(2,some {cells:=ptC (scP bs x.1 x.2.1),ty:=138})::resH x.2.2)
   (fun x=>x.2.1≤bs.length∧x.2.2++(if x.1 then candL bs s0 x.2.1 else [])=candL bs s0 bs.length) (fun x=>if x.1 then x.2.1+1 else 0) (true,bs.length,[]) rfl (fun _=>rfl) ⟨Nat.le_refl _,by simp⟩ ⟨VLe.refl _,VLe.refl _,VLe.refl _,trivial⟩ ⟨rfl,rfl,?_,trivial⟩ ?_
  ·simp only[scP,ptC,if_true,List.take_length];rfl
  ·rintro⟨live,k,done⟩ ⟨i1,i2⟩
   simp only at i1 i2 ⊢;cases live
   ·simp only[Bool.false_eq_true,if_false,List.append_nil] at i2
    subst i2
    cases hd:candL bs s0 bs.length with
    |nil=>
     repeat'(first|exact y0|refine y1 ?_|refine y2 ?_ ?_|(refine y8 ?_ ?_<;>intro h<;>try exact y6)|refine Fin.le (.inl rfl) rfl (VLe.s SLe.nil) rfl|refine y3 ?_|refine y7 ?_ ?_|refine y4 ?_|(refine y9 ?_ ?_<;>intro h)|exact y5|fail)
    |cons d l=>
     repeat'(first|exact y0|refine y1 ?_|refine y2 ?_ ?_|(refine y8 ?_ ?_<;>intro h<;>try exact y6)|refine Ex.fz 4 (fun k=>ptC ((d::l).getD k z0)) 3 rfl rfl rfl rfl (fun k _=>rfl) (fun k j x hk hx=>pts_get hk hx) rfl rfl ?_|refine Fin.le (.inl rfl) rfl (VLe.refl _) rfl|refine y3 ?_|refine y7 ?_ ?_|refine y4 ?_|(refine y9 ?_ ?_<;>intro h)|exact y5|fail)
   ·have hjk:=join_u true 0 (bs.take k) false 0 [s0]
    have hpk:=parent_u true 0 (bs.take k);rw[join_take h1 h2 i1] at hjk;rw[parent_take h1 i1] at hpk;simp only[if_true] at i2
    have hlen:done.length≤33:=by
     have e1:=candL_len bs s0 bs.length;rw[←i2,List.length_append] at e1;omega
    have hsz:(Tryz.prog.types[138]).size=3:=by kernel_rfl
    have hby:(Tryz.prog.types[138]).bytes=40:=by kernel_rfl
    cases k with
    |zero=>
     rw[if_neg (by omega)] at hjk;rw[if_pos rfl] at hpk;simp only[candL] at i2
     cases done with
     |nil=>
      repeat'(first|refine Ex.flat 7 rfl rfl rfl rfl ?_|exact y0|refine y1 ?_|refine y2 ?_ ?_|(refine y8 ?_ ?_<;>intro h<;>try exact y6)|(refine wC ?_;first|refine wF 138 (pu hjk ?_)|refine wF 183 (pu hpk ?_))|refine RegX.app [.app 1 (ptC (Pth.mk true 0 (bs.take 0++[s0])))] rfl rfl ?_ rfl rfl rfl ?_|refine y3 ?_|refine y7 ?_ ?_|refine y4 ?_|(refine y9 ?_ ?_<;>intro h)|exact y5|fail)
      all_goals try first
       |(rw[hsz];exact Nat.le_refl _)
       |(simp only[List.length_append,List.length_cons,List.length_nil];done)
       |(rw[hby];simp only[List.length_cons] at hlen;omega)
       |(rw[hby];simp only[List.length_cons,List.length_append,List.length_nil] at hlen ⊢;omega)
       |(simp only[List.length_cons,List.length_append,List.length_nil] at hlen ⊢;omega)
       |(rw[hsz,flat_len];exact Nat.le_refl _)
       |(rw[hsz,List.flatMap_append];show _=List.take ((d::l).length*3) (List.flatMap ptC (d::l))++_;rw[←flat_len,List.take_length];rfl)
       |(unfold fitsIn;rfl)
      refine LoopR.move (false,0,[Pth.mk true 0 (bs.take 0++[s0])]) ⟨Nat.zero_le _,?_⟩ (by simp) [0,1,9,7,8] rfl ?_ ?_ rfl
      ·simpa using i2
      ·repeat' (first|exact VLe.refl _|exact VLe.any _|exact True.intro|refine⟨?_,?_⟩)
      ·exact⟨rfl,rfl,rfl,rfl,trivial⟩
     |cons d l=>
      repeat'(first|exact y0|refine y1 ?_|refine y2 ?_ ?_|(refine y8 ?_ ?_<;>intro h<;>try exact y6)|(refine wC ?_;first|refine wF 138 (pu hjk ?_)|refine wF 183 (pu hpk ?_))|refine RegX.app [.app ((l++[Pth.mk true 0 (bs.take 0++[s0])]).length+1) ((d::l++[Pth.mk true 0 (bs.take 0++[s0])]).flatMap ptC)] rfl rfl ?_ rfl rfl rfl ?_|refine y3 ?_|refine y7 ?_ ?_|refine y4 ?_|(refine y9 ?_ ?_<;>intro h)|exact y5|fail)
      all_goals try first
       |(rw[hsz];exact Nat.le_refl _)
       |(simp only[List.length_append,List.length_cons,List.length_nil];done)
       |(rw[hby];simp only[List.length_cons] at hlen;omega)
       |(rw[hby];simp only[List.length_cons,List.length_append,List.length_nil] at hlen ⊢;omega)
       |(simp only[List.length_cons,List.length_append,List.length_nil] at hlen ⊢;omega)
       |(rw[hsz,flat_len];exact Nat.le_refl _)
       |(rw[hsz,List.flatMap_append];show _=List.take ((d::l).length*3) (List.flatMap ptC (d::l))++_;rw[←flat_len,List.take_length];rfl)
       |(unfold fitsIn;rfl)
      refine LoopR.move (false,0,(d::l++[Pth.mk true 0 (bs.take 0++[s0])])) ⟨Nat.zero_le _,?_⟩ (by simp) [0,1,9,7,8] rfl ?_ ?_ rfl
      ·simpa using i2
      ·repeat' (first|exact VLe.refl _|exact VLe.any _|exact True.intro|refine⟨?_,?_⟩)
      ·exact⟨rfl,rfl,rfl,rfl,trivial⟩
    |succ k=>
     rw[if_neg (by omega)] at hpk;simp only[candL] at i2;by_cases h32:32<k+2
     ·rw[if_pos h32] at i2
      rw[if_pos (by omega)] at hjk
      cases done with
      |nil=>
       repeat'(first|exact y0|refine y1 ?_|refine y2 ?_ ?_|(refine y8 ?_ ?_<;>intro h<;>try exact y6)|(refine wC ?_;first|refine wF 138 (pu hjk ?_)|refine wF 183 (pu hpk ?_))|refine y3 ?_|refine y7 ?_ ?_|refine y4 ?_|(refine y9 ?_ ?_<;>intro h)|exact y5|fail)
       refine LoopR.move (true,k,[]) ⟨by simp only;omega,?_⟩ (by simp) [0,1,6,3,4] rfl ?_ ?_ rfl
       ·simpa using i2
       ·repeat' (first|exact VLe.refl _|exact VLe.any _|exact True.intro|refine⟨?_,?_⟩)
       ·exact⟨rfl,rfl,rfl,trivial⟩
      |cons d l=>
       repeat'(first|exact y0|refine y1 ?_|refine y2 ?_ ?_|(refine y8 ?_ ?_<;>intro h<;>try exact y6)|(refine wC ?_;first|refine wF 138 (pu hjk ?_)|refine wF 183 (pu hpk ?_))|refine y3 ?_|refine y7 ?_ ?_|refine y4 ?_|(refine y9 ?_ ?_<;>intro h)|exact y5|fail)
       refine LoopR.move (true,k,(d::l)) ⟨by simp only;omega,?_⟩ (by simp) [0,1,6,3,4] rfl ?_ ?_ rfl
       ·simpa using i2
       ·repeat' (first|exact VLe.refl _|exact VLe.any _|exact True.intro|refine⟨?_,?_⟩)
       ·exact⟨rfl,rfl,rfl,rfl,trivial⟩
     ·rw[if_neg h32] at i2
      rw[if_neg (by omega)] at hjk
      cases done with
      |nil=>
       repeat'(first|refine Ex.flat 7 rfl rfl rfl rfl ?_|exact y0|refine y1 ?_|refine y2 ?_ ?_|(refine y8 ?_ ?_<;>intro h<;>try exact y6)|(refine wC ?_;first|refine wF 138 (pu hjk ?_)|refine wF 183 (pu hpk ?_))|refine RegX.app [.app 1 (ptC (Pth.mk true 0 (bs.take (k+1)++[s0])))] rfl rfl ?_ rfl rfl rfl ?_|refine y3 ?_|refine y7 ?_ ?_|refine y4 ?_|(refine y9 ?_ ?_<;>intro h)|exact y5|fail)
       all_goals try first
        |(rw[hsz];exact Nat.le_refl _)
        |(simp only[List.length_append,List.length_cons,List.length_nil];done)
        |(rw[hby];simp only[List.length_cons] at hlen;omega)
        |(rw[hby];simp only[List.length_cons,List.length_append,List.length_nil] at hlen ⊢;omega)
        |(simp only[List.length_cons,List.length_append,List.length_nil] at hlen ⊢;omega)
        |(rw[hsz,flat_len];exact Nat.le_refl _)
        |(rw[hsz,List.flatMap_append];show _=List.take ((d::l).length*3) (List.flatMap ptC (d::l))++_;rw[←flat_len,List.take_length];rfl)
        |(unfold fitsIn;rfl)
       refine LoopR.move (true,k,[Pth.mk true 0 (bs.take (k+1)++[s0])]) ⟨by simp only;omega,?_⟩ (by simp) [0,1,9,7,8] rfl ?_ ?_ rfl
       ·simpa using i2
       ·repeat' (first|exact VLe.refl _|exact VLe.any _|exact True.intro|refine⟨?_,?_⟩)
       ·exact⟨rfl,rfl,rfl,rfl,trivial⟩
      |cons d l=>
       repeat'(first|exact y0|refine y1 ?_|refine y2 ?_ ?_|(refine y8 ?_ ?_<;>intro h<;>try exact y6)|(refine wC ?_;first|refine wF 138 (pu hjk ?_)|refine wF 183 (pu hpk ?_))|refine RegX.app [.app ((l++[Pth.mk true 0 (bs.take (k+1)++[s0])]).length+1) ((d::l++[Pth.mk true 0 (bs.take (k+1)++[s0])]).flatMap ptC)] rfl rfl ?_ rfl rfl rfl ?_|refine y3 ?_|refine y7 ?_ ?_|refine y4 ?_|(refine y9 ?_ ?_<;>intro h)|exact y5|fail)
       all_goals try first
        |(rw[hsz];exact Nat.le_refl _)
        |(simp only[List.length_append,List.length_cons,List.length_nil];done)
        |(rw[hby];simp only[List.length_cons] at hlen;omega)
        |(rw[hby];simp only[List.length_cons,List.length_append,List.length_nil] at hlen ⊢;omega)
        |(simp only[List.length_cons,List.length_append,List.length_nil] at hlen ⊢;omega)
        |(rw[hsz,flat_len];exact Nat.le_refl _)
        |(rw[hsz,List.flatMap_append];show _=List.take ((d::l).length*3) (List.flatMap ptC (d::l))++_;rw[←flat_len,List.take_length];rfl)
        |(unfold fitsIn;rfl)
       refine LoopR.move (true,k,(d::l++[Pth.mk true 0 (bs.take (k+1)++[s0])])) ⟨by simp only;omega,?_⟩ (by simp) [0,1,9,7,8] rfl ?_ ?_ rfl
       ·simpa using i2
       ·repeat' (first|exact VLe.refl _|exact VLe.any _|exact True.intro|refine⟨?_,?_⟩)
       ·exact⟨rfl,rfl,rfl,rfl,trivial⟩
theorem cand_c (b r:Pth):FC Tryz.prog 143 [ptV b,ptV r] 0 [] (.s (ptsF (candP b r))) 0 []:=cand_u b.root b.up b.segs r.root r.up r.segs
end Go.Proofs.YtbokilgdefkmiaaGreatDoor
namespace Go.Proofs.YtbokilgdefkmiaaGreatDoor
namespace Ab
open Go Go.RowKit
theorem FC.below {P:Program} {f:FuncId} {args:List V} {v:V} (hok:fnOK P f=true)
 (h:∀ (φ:Ph) (xs:List Value) (w:World),All2 (Vr φ) args xs→Good φ [] w→Calls P f xs.toArray w fun e w'=>∃ x,e=.returned x∧(∀ ψ:Ph,ψ.z=φ.z→Vr ψ v x)∧Below w.heap.size w w'):FC P f args 0 [] v 0 []:=by
 refine⟨hok,fun φ xs w hx hg hf=>?_⟩;refine (h φ xs w hx hg).mono ?_;rintro e w' ⟨x,rfl,hv,hb⟩;refine⟨φ,x,rfl,hv φ rfl,⟨fun i bl hi=>(by cases hi),fun i j bl bl' b b' hi=>(by cases hi),fun b l hz=>?_,hg.gz⟩,hf,⟨hb.os,hb.tape,hb.output,hb.size,fun b hlt _=>hb.block b hlt,fun j bl b hj=>(by cases hj),fun _ _ q=>q,fun _ _ q=> .inl q⟩,Nat.le_refl _,fun _ _=>rfl⟩;obtain⟨h1,h2⟩:=hg.fz b l hz;exact⟨by rw[hb.block b (hg.fzlt hz)];exact h1,fun hw=>by obtain⟨i,bl,c,hi,_⟩:=hw;cases hi⟩
theorem OpL.view {P:Program} {o:Oper} {env:List V} {n:Nat} {M M1 M1' M':Hp} {v:V} {n':Nat} (i:Nat) {bl bl1:Bl} (hl:lk M i=some bl) (hro:bl1.ro=true) (hv:∀ φ w b,BlAt φ w b bl→BlAt φ w b bl1) (hin:i<n)
 (h1:∀ j,lk M1 j=if i=j then some bl1 else lk M j) (h:OpL P o env n M1 v n' M1') (h2:∀ j bl,lk M' j=some bl→if i=j then some bl=lk M i else lk M1' j=some bl) (hk:lk M1' i=some bl1):OpL P o env n M v n' M':=by
 intro φ a w Q hx hg hf
 have wr1:∀ b,Wr φ M1 b→Wr φ M b∧∀ c,φ i=some c→c.1=b→bl.ro=true:=by
  rintro b ⟨k,blk,c,hk1,hpk,hc,hr⟩;rw[h1] at hk1;split at hk1
  ·cases hk1;rw[hro] at hr;cases hr
  ·rename_i hne
   refine⟨⟨k,blk,c,hk1,hpk,hc,hr⟩,fun c' hc' e=>?_⟩
   rcases hg.inj i k bl blk c' c hl hk1 hc' hpk (e.trans hc.symm) with q|q
   ·exact absurd q hne
   ·exact q.1
 have hg1:Good φ M1 w:=by
  refine⟨fun j bj hj=>?_,fun j k bj bk b b' hj hk' hb hb' e=>?_,fun b l hb=>⟨(hg.fz b l hb).1,fun hw=>(hg.fz b l hb).2 (wr1 b hw).1⟩,hg.gz⟩
  ·rw[h1] at hj
   split at hj
   ·rename_i e;subst e;cases hj
    obtain⟨b,hb,hat⟩:=hg.hr i bl hl;exact⟨b,hb,hv φ w b hat⟩
   ·exact hg.hr j bj hj
  ·rw[h1] at hj hk'
   split at hj<;>split at hk'
   ·rename_i e1 e2;exact .inl (e1.symm.trans e2)
   ·rename_i e1 e2;subst e1;cases hj
    rcases hg.inj i k bl bk b b' hl hk' hb hb' e with q|q
    ·exact .inl q
    ·exact .inr ⟨hro,q.2⟩
   ·rename_i e1 e2;subst e2;cases hk'
    rcases hg.inj j i bj bl b b' hj hl hb hb' e with q|q
    ·exact .inl q
    ·exact .inr ⟨q.1,hro⟩
   ·exact hg.inj j k bj bk b b' hj hk' hb hb' e
 refine Oper.wp_mono (fun a' w'=>?_) (h φ a w Q hx hg1 hf);rintro⟨φ',x,e1,e2,hg',st,hφ⟩;have hφi:φ' i=φ i:=hφ i (fun q=>Nat.lt_irrefl _ (Nat.lt_of_lt_of_le hin q.1));have hle:φ.le φ':=le_of_agree hf hφ st.zle;obtain⟨bi,hbi,hat⟩:=hg.hr i bl hl
 have nwr:bl.ro=false→ ¬Wr φ M1 bi.1:=fun hr hw=>by have:=(wr1 _ hw).2 bi hbi rfl;rw[hr] at this;cases this
 have kept:bl.ro=false→w'.heap[bi.1]? =w.heap[bi.1]? :=fun hr=>st.keep bi.1 hat.lt (nwr hr)
 have keptA:w'.heap[bi.1]? =w.heap[bi.1]? :=by
  cases hr:bl.ro with
  |false=>exact kept hr
  |true=>
   refine st.keep bi.1 hat.lt fun hw=>?_
   have hw':=hw;obtain⟨k,blk,c,hk1,hpk,hc,hr'⟩:=hw';have:=h1 k;rw[hk1] at this;split at this
   ·cases this;rw[hro] at hr';cases hr'
   ·rename_i hne
    rcases hg.inj i k bl blk bi c hl this.symm hbi hpk hc.symm with q|q
    ·exact hne q
    ·rw[q.2] at hr';cases hr'
 have wr':∀ b,Wr φ' M' b→Wr φ' M1' b∨(b=bi.1∧bl.ro=false):=by
  rintro b ⟨k,blk,c,hk1,hpk,hc,hr⟩;have:=h2 k blk hk1;split at this
  ·rename_i e;subst e
   rw[hl] at this;cases this;rw[hφi,hbi] at hpk;cases hpk;exact .inr ⟨hc.symm,hr⟩
  ·exact .inl ⟨k,blk,c,this,hpk,hc,hr⟩
 have same:∀ k blk c,i≠k→lk M1' k=some blk→φ' k=some c→c.1=bi.1→bl.ro=true∧blk.ro=true:=by
  intro k blk c hne hk1 hpk hc;obtain⟨k2,b2,c2,q1,q2,q3,q4,q5⟩:=st.fresh k blk c hk1 hpk (by rw[hc];exact hat.lt);have q1':=h1 k2;rw[q1] at q1';split at q1'
  ·rename_i e;subst e;cases q1'
   rcases q5 with q5|q5
   ·exact absurd q5 hne
   ·rw[hro] at q5;cases q5
  ·rename_i hne2
   rcases hg.inj i k2 bl b2 bi c2 hl q1'.symm hbi q2 (hc.symm.trans q3.symm) with q|q
   ·exact absurd q hne2
   ·exact⟨q.1,q4 q.2⟩
 refine⟨φ',x,e1,e2,⟨fun j bj hj=>?_,fun j k bj bk b b' hj hk' hb hb' e=>?_,fun b l hb=>⟨(hg'.fz b l hb).1,fun hw=>?_⟩,hg'.gz⟩,⟨st.os,st.tape,st.output,st.size,fun b hb hn=>st.keep b hb fun hw=>hn (wr1 b hw).1,fun j bj b hj hb hlt=>?_,st.zle,fun b l hb=>?_⟩,hφ⟩
 ·have:=h2 j bj hj
  split at this
  ·rename_i e;subst e;rw[hl] at this;cases this
   exact⟨bi,by rw[hφi];exact hbi,hat.mono hle keptA⟩
  ·exact hg'.hr j bj this
 ·have a1:=h2 j bj hj
  have a2:=h2 k bk hk'
  split at a1<;>split at a2
  ·rename_i e1 e2;exact .inl (e1.symm.trans e2)
  ·rename_i e1 e2;subst e1;rw[hl] at a1;cases a1
   rw[hφi,hbi] at hb;cases hb;exact .inr (same k bk b' e2 a2 hb' e.symm)
  ·rename_i e1 e2;subst e2;rw[hl] at a2;cases a2
   rw[hφi,hbi] at hb';cases hb';exact .inr ((same j bj b e1 a1 hb e).symm)
  ·exact hg'.inj j k bj bk b b' a1 a2 hb hb' e
 ·rcases wr' b hw with q|⟨q,hr⟩
  ·exact (hg'.fz b l hb).2 q
  ·subst q
   rcases st.zfr _ _ hb with q|q|q
   ·exact (hg.fz _ _ q).2 ⟨i,bl,bi,hl,hbi,rfl,hr⟩
   ·exact absurd hat.lt (Nat.not_lt.2 q)
   ·exact nwr hr q
 ·have:=h2 j bj hj
  split at this
  ·rename_i e;subst e;rw[hl] at this;cases this
   rw[hφi,hbi] at hb;cases hb;exact⟨i,bl,bi,hl,hbi,rfl,id,.inl rfl⟩
  ·rename_i hne
   obtain⟨k2,b2,c2,q1,q2,q3,q4,q5⟩:=st.fresh j bj b this hb hlt;have q1':=h1 k2;rw[q1] at q1';split at q1'
   ·rename_i e;subst e;cases q1'
    rcases q5 with q5|q5
    ·exact absurd q5 hne
    ·rw[hro] at q5;cases q5
   ·exact⟨k2,b2,c2,q1'.symm,q2,q3,q4,q5⟩
 ·rcases st.zfr b l hb with q|q|q
  ·exact .inl q
  ·exact .inr (.inl q)
  ·exact .inr (.inr (wr1 b q).1)
def dropK (i:Nat):Hp→Hp
 |[]=>[]
 |(k,b)::t=>match Nat.beq k i with|true=>dropK i t|false=>(k,b)::dropK i t
theorem lk_dropK (i:Nat):∀ (cw:Hp) (M M1:Hp),(∀ j,i≠j→lk M1 j=lk M j)→(lk (puts M (dropK i cw)) i=lk M i)∧∀ j,i≠j→lk (puts M (dropK i cw)) j=lk (puts M1 cw) j
 |[],M,M1,h=>⟨rfl,fun j hj=>(h j hj).symm⟩
 |(k,b)::t,M,M1,h=>by
  simp only[dropK];split
  ·rename_i e
   have e:=Nat.eq_of_beq_eq_true e;subst e;have:=lk_dropK k t M (put M1 k b) (fun j hj=>by rw[lk_put,if_neg hj];exact h j hj);exact this
  ·rename_i e
   have hne: ¬k=i:=fun q=>by subst q;simp at e
   have:=lk_dropK i t (put M k b) (put M1 k b) (fun j hj=>by rw[lk_put,lk_put];split;·rfl
                                                             ·exact h j hj)
   refine⟨this.1.trans (by rw[lk_put,if_neg hne]),this.2⟩
section
variable {P:Program} {b:Nat} {ops:Array Oper} {d:Bool} {acc:List Row} {os:List Oper} {o:Oper} {env:List V} {n:Nat} {L:Hp} {R:Post} {f:FuncId} {xs:Array Operand}
theorem CallG.mv (tbl:List Nat) (i:Nat) {bl bl1:Bl} {args0:List V} {L0:Hp} {v0:V} {n0':Nat} {L0':Hp} (sc:FC P f args0 tbl.length L0 v0 n0' L0')
 (hchk:(args0.all (okV tbl.length)&&okH tbl.length L0&&allSaid L0 L0'&&nodupB (keys L0')&&Nat.ble tbl.length n0'&&oldB tbl n n0'&&aliB tbl L0)=true) {args1:List V} (ha:xs.toList.map (ev env)=args1) (hle:All2 VLe args1 (args0.map (renV (rn tbl n))))
 (hl:lk (res tbl L) i=some bl) (hro:bl1.ro=true) (hvw:∀ φ w b,BlAt φ w b bl→BlAt φ w b bl1) (hin:Nat.blt i n=true) (ft:FitP tbl n (put (res tbl L) i (some bl1)) L0) (hk:lk (puts (put (res tbl L) i (some bl1)) (callWr tbl n L0 L0')) i=some bl1)
 (hw:want ops env o=some true) {v:V} (hv:frcV (renV (rn tbl n) v0) some=some v) {wr:Hp} (hwr:frc (dropK i (callWr tbl n L0 L0')) [] some=some wr)
 (k:RegX P ops d (pushR d o tbl wr acc) os (setD env o.dst v) (n+(n0'-tbl.length)) (puts L wr) R):CallG P ops d acc o f xs os env n L R:=by
 refine⟨fun⟨ts,ho⟩=>?_⟩;obtain⟨hf,sc⟩:=sc;rw[frcV_eq] at hv;cases hv;rw[frc_eq] at hwr;cases hwr;simp only[Bool.and_eq_true] at hchk;obtain⟨⟨⟨⟨⟨⟨k1,k2⟩,k3⟩,k4⟩,k5⟩,k6⟩,k7⟩:=hchk;unfold fnOK at hf;split at hf
 ·rename_i fn hfn
  simp only[Bool.and_eq_true,Bool.not_eq_true'] at hf;have h:=SC.opW (n:=n) (env:=env) (M:=put (res tbl L) i (some bl1)) sc k1 k2 ho rfl hfn hf.1 hf.2 (ha▸hle) (Fits.of k6 k7 ft) (after_callWr k3 k4);have hd:=lk_dropK i (callWr tbl n L0 L0') (res tbl L) (put (res tbl L) i (some bl1)) (fun j hj=>by rw[lk_put,if_neg hj]);refine RegX.op hw (OpL.view i hl hro hvw (blt_iff.1 hin) (fun j=>by rw[lk_put]) h (fun j bj hj=>?_) hk) (Nat.le_add_right _ _) k;split
  ·rename_i e;subst e;rw[←hj];exact hd.1
  ·rename_i e;rw[←hj];exact (hd.2 j e).symm
 ·cases hf
end
def viewB (k:Nat) (bl:Bl):Bl:={cells:=bl.cells.take k,ty:=bl.ty,more:=true,ro:=true}
theorem BlAt.view {φ:Ph} {w:World} {b:Nat×Nat} {bl:Bl} (k:Nat) (hk:bl.kind=none) (h:BlAt φ w b bl):BlAt φ w b (viewB k bl):=by
 obtain⟨pre,xs,rest,fr,h1,h2,h3,h4,h5,h6⟩:=h;refine⟨pre,xs.take k,xs.drop k++rest,fr,?_,h2,?_,(fun e=>by cases e),(fun e=>by cases e),⟨fun g z e=>(by cases e),fun g e=>(by cases e)⟩⟩
 ·rw[h1,hk];show _=some (objOf none _ bl.ty fr)
  rw[←List.append_assoc (xs.take k),List.take_append_drop]
 ·exact (h3.mono fun _ _=>Sr.mono (bl.ph_le_self φ)).take k
theorem SLe.slcfrz {i o:Nat} {c:Option Nat} {get:Nat→List S} {sz:Nat}:SLe (.slc (some (i,o)) 0 c) (.frz get sz 0):=fun φ x h=>by
 obtain⟨b,k,_,e,_⟩:=h;subst e;exact Pr.nil _ _ (some _) k (fun h=>nomatch h)
end Ab
end Go.Proofs.YtbokilgdefkmiaaGreatDoor
namespace Go.Proofs.YtbokilgdefkmiaaGreatDoor
open Go Ab
set_option maxRecDepth 100000
set_option maxHeartbeats 1000000
inductive Ends (p:List Nd) (e:Nat):Nat→Nat→Prop
 |done:Ends p e 0 e
 |step {n i:Nat} (h:i<p.length) (k:Nat) (hk:(p.getD i dN).kids=k) (r:Ends p e (n+k) (i+1)):Ends p e (n+1) i
theorem kinds_len (op kids:Int) (h:(kindsB op kids).2=true):((kindsB op kids).1.length:Int)=kids:=by
 unfold kindsB at*;split at h
 ·split at h
  ·cases h
  ·rename_i h5 h7
   simp only[if_pos h5,if_neg h7,List.length_take];show ((min kids.toNat 7:Nat):Int)=kids;omega
 ·split at h
  ·split at h
   ·cases h
   ·rename_i h5 h33 h7
    simp only[if_neg h5,if_pos h33,if_neg h7,List.length_take];show ((min kids.toNat 7:Nat):Int)=kids;omega
  ·split at h
   ·rename_i h5 h33 h31
    simp only[if_neg h5,if_neg h33,if_pos h31];show (3:Int)=kids;omega
   ·rename_i h5 h33 h31
    simp only[if_neg h5,if_neg h33,if_neg h31]
    simpa using h
theorem Ends.kids {p:List Nd} {ch:Int→Nat→Option Nat} (hch:∀ k i e,ch k i=some e→∀ n e',Ends p e' n e→Ends p e' (n+1) i):∀ (ks:By) (i e:Nat),kidsF ch ks i=some e→∀ n e',Ends p e' n e→Ends p e' (n+ks.length) i
 |[],i,e,h,n,e',r=>by simp only[kidsF,Option.some.injEq] at h;subst h;exact r
 |k::ks,i,e,h,n,e',r=>by
  simp only[kidsF] at h;split at h
  ·rename_i e1 h1
   exact hch _ _ _ h1 _ _ (Ends.kids hch ks e1 e h n e' r)
  ·cases h
theorem Ends.block {p:List Nd} {rec:Nat→Option Nat} (hr:∀ i e,rec i=some e→∀ n e',Ends p e' n e→Ends p e' (n+1) i):∀ (k i e:Nat),blockF rec k i=some e→∀ n e',Ends p e' n e→Ends p e' (n+k) i
 |0,i,e,h,n,e',r=>by simp only[blockF,Option.some.injEq] at h;subst h;exact r
 |k+1,i,e,h,n,e',r=>by
  simp only[blockF] at h;split at h
  ·rename_i e1 h1
   exact hr _ _ h1 _ _ (Ends.block hr k e1 e h n e' r)
  ·cases h
def EndsP (p:List Nd) (E:Nat→Int→Option Nat):Prop:=∀ i k e,E i k=some e→∀ n e',Ends p e' n e→Ends p e' (n+1) i
theorem Ends.elemS {p:List Nd} {ok:Bool} {E0 E1:Nat→Int→Option Nat} (h0:EndsP p E0) (h1:EndsP p E1):EndsP p (elemS p ok E0 E1):=by
 intro i k e h n e' r;unfold Go.Proofs.YtbokilgdefkmiaaGreatDoor.elemS at h;split at h
 ·cases h
 ·rename_i x hx
  split at h
  ·rename_i hc
   have hi:i<p.length:=by
    rcases Nat.lt_or_ge i p.length with q|q
    ·exact q
    ·rw[List.getElem?_eq_none q] at hx;cases hx
   have hxe:p.getD i dN=x:=by rw[List.getD_eq_getElem?_getD,hx];rfl
   refine Ends.step hi (kindsB x.op x.kids).1.length (by rw[hxe];exact (kinds_len _ _ hc.2.2).symm) ?_;refine Ends.kids (fun k i e hch n e' r=>?_) _ _ _ h n e' r;unfold childF at hch;split at hch
   ·split at hch
    ·cases hch
    ·rename_i y hy
     split at hch
     ·rename_i hb
      have hi2:i<p.length:=by
       rcases Nat.lt_or_ge i p.length with q|q
       ·exact q
       ·rw[List.getElem?_eq_none q] at hy;cases hy
      have hye:p.getD i dN=y:=by rw[List.getD_eq_getElem?_getD,hy];rfl
      refine Ends.step hi2 y.kids.toNat (by rw[hye];have:=hb.2.2.2.2;omega) ?_;exact Ends.block (fun i e h=>h1 i k e h) _ _ _ hch n e' r
     ·cases hch
   ·exact h0 i k e hch n e' r
  ·cases h
theorem Ends.elemF {p:List Nd}:∀ f,EndsP p (elemF p f)∧EndsP p (Go.Proofs.YtbokilgdefkmiaaGreatDoor.elemF p (f+1))
 |0=>by
  refine⟨fun i k e h=>(by cases h),?_⟩;rw[elemF_succ];exact Ends.elemS (fun i k e h=>by cases h) (fun i k e h=>by cases h)
 |f+1=>by
  have ih:=Ends.elemF (p:=p) f;refine⟨ih.2,?_⟩;rw[elemF_succ];exact Ends.elemS ih.2 ih.1
theorem Ends.le {p:List Nd} {e n i:Nat} (h:Ends p e n i):i+n≤e∧(i≤p.length→e≤p.length):=by
 induction h with
 |done=>exact⟨Nat.le_refl _,id⟩
 |step h k hk r ih=>exact⟨by omega,fun _=>ih.2 (by omega)⟩
abbrev anP (p:List Nd):Hp:=[(0,some {cells:=[.frz (fun k=>ndC (p.getD k dN)) 4 p.length],ty:=109,more:=true,ro:=true})]
theorem end_c (p:List Nd) (hp:p.length≤2048) (i e:Nat) (h:Ends p e 1 i):FC Tryz.prog 141 [.s (.ptr (some (0,0))),nI i] 1 (anP p) (nI e) 1 (anP p):=by
 refine FC.walk (by kernel_rfl) Tryz.func141 rfl rfl ?_
 repeat'(first|exact y0|refine y1 ?_|refine y2 ?_ ?_|(refine y8 ?_ ?_<;>intro h<;>try exact y6)|refine y3 ?_|refine y7 ?_ ?_|refine y4 ?_|(refine y9 ?_ ?_<;>intro h)|exact y5|fail)
 refine Ex.inv (σ:=Nat×Nat) (fun x=>[(1,nI x.2),(5,nI x.1)]) (fun x=>anP p) (fun x=>Ends p e x.1 x.2) (fun x=>p.length-x.2+(if x.1=0 then 0 else 1)) (1,i) rfl (fun _=>rfl) h ⟨VLe.refl _,VLe.refl _,trivial⟩ ⟨rfl,trivial⟩ ?_;rintro⟨n,j⟩ hE;simp only at hE ⊢
 cases hE with
 |done=>
  repeat'(first|exact y0|refine y1 ?_|refine y2 ?_ ?_|(refine y8 ?_ ?_<;>intro h<;>try exact y6)|exact⟨.inl rfl,_,[],VLe.refl _,EndOK.by rfl ⟨rfl,trivial⟩ rfl rfl rfl rfl⟩|refine y3 ?_|refine y7 ?_ ?_|refine y4 ?_|(refine y9 ?_ ?_<;>intro h)|exact y5|fail)
 | @step n1 _ hlt k hk r=>
   obtain⟨l1,l2⟩:=r.le;have l3:=l2 (by omega)
   repeat'(first|exact y0|refine y1 ?_|refine y2 ?_ ?_|(refine y8 ?_ ?_<;>intro h<;>try exact y6)|refine y3 ?_|refine y7 ?_ ?_|refine y4 ?_|(refine y9 ?_ ?_<;>intro h)|exact y5|fail)
   all_goals try first
    |exact i64_in (by omega) (by omega)
   refine LoopR.same (n1+k,j+1) r ?_ rfl ⟨VLe.of_eq (congrArg nI ?_),VLe.of_eq (congrArg nI ?_),trivial⟩ ⟨rfl,trivial⟩ rfl rfl (by decide)
   ·simp only
    rw[if_neg (Nat.succ_ne_zero n1)]
    split<;>omega
   ·push_cast;rfl
   ·push_cast;omega
set_option maxRecDepth 100000
set_option maxHeartbeats 1000000
inductive Chain (p:List Nd) (f:Nat):Nat→List Nat→Prop
 |nil:Chain p f f []
 |cons {j e:Nat} {l:List Nat} (h:Ends p e 1 j) (r:Chain p f e l):Chain p f j (j::l)
def intsF (l:List Nat):S:=.frz (fun k=>[.int .i64 ((l.getD k 0:Nat):Int)]) 1 l.length
abbrev intC (l:List Nat):List S:=l.map fun (j:Nat)=>S.int .i64 (j:Int)
def chS:List Nat→S
 |[]=> .slc (some (1,0)) 0 (some 8)
 |_::l=> .sla 1 2 (l.length+1)
def chB:List Nat→Bl
 |[]=>{cells:=List.replicate 8 (.int .i64 0),ty:=3,sym:=true,flat:=true}
 |j::l=>{cells:=intC (j::l),ty:=3,more:=true,sym:=true,flat:=true,gh:=some (2,1)}
theorem ints_get {l:List Nat} {k j:Nat} {x:S} (hk:k<l.length) (hx:[S.int .i64 ((l.getD k 0:Nat):Int)][j]? =some x):(intC l)[k*1+j]? =some x∧pureS x=true:=by
 cases j with
 |succ j=>simp at hx
 |zero=>
  simp only[List.getElem?_cons_zero,Option.some.injEq] at hx;subst hx;rw[Nat.mul_one,Nat.add_zero,List.getElem?_map,List.getElem?_eq_getElem hk,List.getD_eq_getElem?_getD,List.getElem?_eq_getElem hk];exact⟨rfl,rfl⟩
theorem children_c (p:List Nd) (hp:p.length≤2048) (i f:Nat) (hi:i<p.length) (cs:List Nat) (hk:(p.getD i dN).kids=(cs.length:Nat)) (hc:Chain p f (i+1) cs) (hl:cs.length≤2048):
 FC Tryz.prog 142 [.s (.ptr (some (0,0))),nI i] 1 (anP p) (.s (intsF cs)) 1 (anP p):=by
 refine FC.walk (by kernel_rfl) Tryz.func142 rfl rfl ?_
 repeat'(first|exact y0|refine y1 ?_|refine y2 ?_ ?_|(refine y8 ?_ ?_<;>intro h<;>try exact y6)|refine y3 ?_|refine y7 ?_ ?_|refine y4 ?_|(refine y9 ?_ ?_<;>intro h)|exact y5|fail)
 refine RegX.opA [.idx 0,.idx 8] rfl rfl ⟨rfl,rfl,by decide,?_,by decide⟩ ?_
 ·rw[show (Tryz.prog.types[3]).bytes=8 by kernel_rfl];decide
 repeat'(first|exact y0|refine y1 ?_|refine y2 ?_ ?_|(refine y8 ?_ ?_<;>intro h<;>try exact y6)|refine y3 ?_|refine y7 ?_ ?_|refine y4 ?_|(refine y9 ?_ ?_<;>intro h)|exact y5|fail)
 refine Ex.set 7 .any (VLe.any _) rfl (Ex.upN (n':=3) (by omega) ?_);refine Ex.inv (σ:=List Nat×Nat×List Nat) (fun x=>[(5,.s (chS x.1)),(6,nI x.2.1),(18,nI x.1.length)]) (fun x=>(0,some {cells:=[.frz (fun k=>ndC (p.getD k dN)) 4 p.length],ty:=109,more:=true,ro:=true})::(1,some (chB x.1))::[]) (fun x=>x.1++x.2.2=cs∧Chain p f x.2.1 x.2.2) (fun x=>x.2.2.length) ([],i+1,cs) rfl (fun _=>rfl) ⟨rfl,hc⟩ ⟨VLe.refl _,VLe.refl _,VLe.refl _,trivial⟩ ⟨rfl,rfl,trivial⟩ ?_;rintro⟨done,j,rest⟩ ⟨h1,h2⟩;simp only at h1 h2 ⊢;rw[hk]
 cases h2 with
 |nil=>
  rw[List.append_nil] at h1;subst h1
  cases done with
  |nil=>
   repeat'(first|exact y0|refine y1 ?_|refine y2 ?_ ?_|(refine y8 ?_ ?_<;>intro h<;>try exact y6)|refine Ex.set 4 (.s (intsF [])) (VLe.s SLe.slcfrz) rfl ?_|exact⟨.inl rfl,_,[],VLe.refl _,EndOK.by rfl ⟨rfl,trivial⟩ rfl rfl rfl rfl⟩|refine y3 ?_|refine y7 ?_ ?_|refine y4 ?_|(refine y9 ?_ ?_<;>intro h)|exact y5|fail)
  |cons d l=>
   repeat'(first|exact y0|refine y1 ?_|refine y2 ?_ ?_|(refine y8 ?_ ?_<;>intro h<;>try exact y6)|refine Ex.fz 4 (fun k=>[.int .i64 (((d::l).getD k 0:Nat):Int)]) 1 rfl rfl rfl rfl (fun _ _=>rfl) ?_ rfl rfl ?_|exact⟨.inl rfl,_,[],VLe.refl _,EndOK.by rfl ⟨rfl,trivial⟩ rfl rfl rfl rfl⟩|refine y3 ?_|refine y7 ?_ ?_|refine y4 ?_|(refine y9 ?_ ?_<;>intro h)|exact y5|fail)
   exact fun k j x hk hx=>ints_get hk hx
 | @cons _ e rest he r=>
   have hlen:done.length+(rest.length+1)=cs.length:=by rw[←h1];simp
   have hsz:(Tryz.prog.types[3]).size=1:=by kernel_rfl
   have hby:(Tryz.prog.types[3]).bytes=8:=by kernel_rfl
   have hend:=end_c p hp j e he
   cases done with
   |nil=>
    repeat'(first|exact y0|refine y1 ?_|refine y2 ?_ ?_|(refine y8 ?_ ?_<;>intro h<;>try exact y6)|refine RegX.app [.app 1 (intC [j])] rfl rfl ?_ rfl rfl rfl ?_|refine RegX.atCall (cm hend ?_)|refine y3 ?_|refine y7 ?_ ?_|refine y4 ?_|(refine y9 ?_ ?_<;>intro h)|exact y5|fail)
    all_goals try first
     |(rw[hsz];exact Nat.le_refl _)
     |(rw[hby];omega)
    refine LoopR.move ([j],e,rest) ⟨by simpa using h1,r⟩ (by simp) [0,4,5] rfl ?_ ?_ rfl
    ·repeat' (first|exact VLe.refl _|exact VLe.any _|exact True.intro|refine⟨?_,?_⟩)
    ·exact⟨rfl,rfl,trivial⟩
   |cons d l=>
    have hlen':l.length+1+(rest.length+1)=cs.length:=hlen
    repeat'(first|exact y0|refine y1 ?_|refine y2 ?_ ?_|(refine y8 ?_ ?_<;>intro h<;>try exact y6)|refine RegX.app [.app ((l++[j]).length+1) (intC (d::l++[j]))] rfl rfl ?_ rfl rfl rfl ?_|refine RegX.atCall (cm hend ?_)|refine y3 ?_|refine y7 ?_ ?_|refine y4 ?_|(refine y9 ?_ ?_<;>intro h)|exact y5|fail)
    all_goals try first
     |(rw[hsz];exact Nat.le_refl _)
     |(simp only[List.length_append,List.length_cons,List.length_nil];done)
     |(rw[hby];simp only[List.length_append,List.length_cons,List.length_nil];omega)
     |(simp only[List.length_append,List.length_cons,List.length_nil];omega)
     |(rw[hsz];show (l.length+1)*1≤(intC (d::l)).length;simp)
     |(rw[hsz];show intC (d::l++[j])=List.take ((l.length+1)*1) (intC (d::l))++_;rw[List.take_of_length_le (by simp),intC,List.map_append];rfl)
     |(unfold fitsIn;rfl)
    refine LoopR.move (d::l++[j],e,rest) ⟨by simpa using h1,r⟩ (by simp) [0,4,5] rfl ?_ ?_ rfl
    ·repeat' (first|exact VLe.refl _|exact VLe.any _|exact True.intro|exact VLe.of_eq (congrArg nI (by simp))|refine⟨?_,?_⟩)
    ·exact⟨rfl,rfl,trivial⟩
end Go.Proofs.YtbokilgdefkmiaaGreatDoor
