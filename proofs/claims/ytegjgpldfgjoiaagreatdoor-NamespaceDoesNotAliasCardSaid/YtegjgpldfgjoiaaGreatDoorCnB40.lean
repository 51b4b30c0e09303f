import Derived.Test.YtegjgpldfgjoiaaGreatDoorCnB39
import Derived.Test.YtegjgpldfgjoiaaGreatDoorCnB33
import Derived.Test.YtegjgpldfgjoiaaGreatDoorCnB37
set_option linter.unusedSimpArgs false
set_option linter.unusedVariables false
namespace Go.Proofs.YtegjgpldfgjoiaaGreatDoor
open Go Ab
set_option maxRecDepth 100000
set_option maxHeartbeats 4000000
structure LoadW (p:List Nd) (E':List Ent) (T':List Tb) (z e:Int):Prop where
 h:FC Tryz.prog 25 [.s (.ptr (some (0,0))),.s (.slc (some (4,0)) p.length (some (p.length+3)))] 5 (sC p E0 []) (.tup [.s (.int .i64 z),.s (.int .i64 e)]) 8 (B8 p E' T')
 o:e≠0\/(e=0/\z=1/\(∃ rs,T'=[⟨p,rs⟩])/\NsOK E' T')
theorem CI (p:List Nd) (hw:wfN p) (hI:wfI p) (hv:bz p=true):∃ E' T' z e,LoadW p E' T' z e:=by
 obtain⟨G,hG,hck,hpre⟩:=wh p hw hI hv;by_cases h6:C6 G
 ·obtain⟨H,t,ha,hv,hs,hE,hen⟩:=hpre h6
  have hy:=fun v n' L'=>CH p H G hG hck h6 t ha hv hs hE hen E0 [] (by decide) mU nr _ rfl _ rfl v n' L'
  have hdg:=gx (num:=1+(([]:List Tb).length:Int)) (m:=E0.length) H t.size t 0 ⟨true,0,[]⟩ E0 [] (Nat.le_refl _) ha hv ⟨Nat.le_refl _,nr,fun d hd=>by cases hd⟩;generalize aW p (1+(([]:List Tb).length:Int)) false t 0 ⟨true,0,[]⟩ E0 []=D at hy hdg;have hrs:=sG (p:=p) (num:=1+(([]:List Tb).length:Int)) (m:=E0.length) (T:=[]++[⟨p,[]⟩]) D.2.1 D.1 [] hdg.2.2 hdg.2.1 (fun r hr=>by cases hr);generalize fJ p ([]++[⟨p,[]⟩]) D.2.1 D.1 []=R at hy hrs;obtain⟨r1,r2,r3,r4⟩:=hrs;by_cases hd:D.2.2=0
  ·by_cases hr:R.2.2=0
   ·have h1:=hy _ _ _ (fun h=>absurd hd h) (fun _ h=>absurd hr h) fun _ _=>⟨rfl,rfl,rfl⟩
    have g:=hdg.1.trans r1;refine⟨R.1,[⟨p,R.2.1⟩],_,_,h1,.inr ⟨rfl,rfl,⟨_,rfl⟩,Nat.le_trans (by decide) g.len,g.small (by decide),PathQ.gro g yj,?_,r2⟩⟩;exact RegE.gro H ⟨0,rfl,by simp,rfl⟩ g (RegE.tab _ (by simp) (fun j hj=>absurd hj (Nat.not_lt_zero _)) mU)
   ·exact⟨E0,[],0,R.2.2,hy _ _ _ (fun h=>absurd hd h) (fun _ _=>⟨rfl,rfl,rfl⟩) fun _ h=>absurd h hr,.inl hr⟩
  ·exact⟨E0,[],0,D.2.2,hy _ _ _ (fun _=>⟨rfl,rfl,rfl⟩) (fun h=>absurd h hd) fun h=>absurd h hd,.inl hd⟩
 ·exact⟨E0,[],0,1,wl p G hG hck h6 E0 [],.inl (by decide)⟩
theorem DA (l:List Int) (p:List Nd) (hb:p.length<=2000000000) (hg:FC Tryz.prog 14 [.s (chF l)] 0 [] (ae p) 0 []) (haw:FC Tryz.prog 12 [] 0 [] (bV true) 0 [])
 (E:List Ent) (T:List Tb) (z e:Int) (hl:LoadW p E T z e):
 FC Tryz.prog 6 [.s (chF l)] 0 [] (bV true) 0 []:=by
 have hn:=uz;have L1:=hl.h;have hsp:=B5 p hb;have hun:=EF p hb;have hov:FC Tryz.prog 32 [.s (.slc (some (0,0)) p.length (some (p.length+3)))] 1 [(0,some (spB p))] .any 1 [(0,some (zN (zrN p p.length) (mkC++mkC++mkC)))]:=Cw p _ _ hb;refine FC.walk (by kernel_rfl) Tryz.func6 rfl rfl ?_
 rcases hl.o with he|⟨rfl,rfl,⟨rs,rfl⟩,hns⟩
 ·
  repeat'(first|exact y0|refine y1 ?_|refine y2 ?_ ?_|(refine y8 ?_ ?_<;>intro h<;>try(exact y6))|(refine wC ?_;first|refine wF 12 (pu haw ?_)|refine wF 14 (pu hg ?_)|(refine wF 10 ?_;refine CallG.me [] hn rfl rfl trivial trivial rfl rfl rfl ?_)|(refine wF 30 ?_;refine CallG.mo [] hsp rfl rfl (by rfl) rfl rfl ⟨VLe.refl _,VLe.refl _,trivial⟩ trivial rfl rfl (wr:=[(4,some (spB p))]) (by rfl) ?_)|(refine wF 25 ?_;refine CallG.mo [0,1,2,3,4] L1 rfl rfl rfl rfl rfl ⟨VLe.refl _,VLe.refl _,trivial⟩ ⟨⟨rfl,_,rfl,rfl,fun h=>h⟩,⟨rfl,_,rfl,rfl,fun h=>h⟩,⟨rfl,_,rfl,rfl,fun h=>h⟩,⟨rfl,_,rfl,rfl,fun h=>h⟩,⟨rfl,_,rfl,rfl,fun h=>h⟩,trivial⟩ rfl rfl (wr:=[(0,some (bn 6 7 8 (E.length:Nat) (1+(T.length:Int)))),(1,none),(2,none),(3,none),(4,some (spB p)),(6,some (oB E)),(7,some (pB E)),(8,some (tB T))]) (by rfl) ?_)|(refine wF 31 ?_;refine CallG.mo [4] hun rfl rfl (by rfl) rfl rfl ⟨VLe.refl _,VLe.refl _,VLe.refl _,trivial⟩ ⟨⟨rfl,_,rfl,rfl,fun h=>h⟩,trivial⟩ rfl rfl (wr:=[(4,some (spB p))]) (by rfl) ?_)|(refine wF 32 ?_;refine CallG.mo [4] hov rfl rfl (by rfl) rfl rfl ⟨VLe.refl _,trivial⟩ ⟨⟨rfl,_,rfl,rfl,fun h=>h⟩,trivial⟩ rfl rfl (wr:=[(4,some (zN (zrN p p.length) (mkC++mkC++mkC)))]) (by rfl) ?_))|refine y3 ?_|refine y7 ?_ ?_|refine y4 ?_|(refine y9 ?_ ?_<;>intro h)|exact y5|fail)
  exact Fin.bool (.inl rfl) rfl rfl
 ·
  have hob:FC Tryz.prog 26 [.s (.ptr (some (0,0)))] 4 (spL E [⟨p,rs⟩]) (.s (.row 4 5 E.length)) 6 [(0,some (bn 1 2 3 (E.length:Nat) 2)),(1,some (oB E)),(2,some (pB E)),(3,some (tB [⟨p,rs⟩])),(4,some (unS 4 (co 0 E.length)))]:=by
   have h:=ju E [⟨p,rs⟩] hns.n1;rw[uc (by rw[dC];have:=hns.n3;omega)] at h;exact h
  have hkl:0<(cM E ((0:Nat):Int)).length:=by
   obtain⟨j,j1,j2,_⟩:=hns.q.up 1 (by decide) (by have:=hns.n3;omega);obtain⟨k,hk,_⟩:=uG (E:=E) (i:=1) (j:=0) (by have:=hns.n3;omega) (by rw[j2];omega);omega
  have hkb:(cM E ((0:Nat):Int)).length<=2000000000:=by
   have:(cM E ((0:Nat):Int)).length<=E.length:=by
    unfold cM;rw[List.length_map];exact Nat.le_trans (List.length_filter_le _ _) (Nat.le_of_eq (dU _ _))
   have:=hns.n1;omega
  have hkd:FC Tryz.prog 29 [.s (.ptr (some (0,0))),nI (0:Nat)] 4 (spL E [⟨p,rs⟩]) (.s (.row 4 5 (cM E ((0:Nat):Int)).length)) 6 [(0,some (bn 1 2 3 (E.length:Nat) 2)),(1,some (oB E)),(2,some (pB E)),(3,some (tB [⟨p,rs⟩])),(4,some (unS 4 (cM E ((0:Nat):Int))))]:=by
   have h:=zk E [⟨p,rs⟩] hns.n1 0 (by have:=hns.n3;omega);rw[uc hkl] at h;exact h
  have hoi:=yq (co 0 E.length) (by rw[dC];have:=hns.n3;omega) (by rw[dC];have:=hns.n1;omega);rw[dC] at hoi;have hok:=yq (cM E ((0:Nat):Int)) hkl hkb;generalize cM E ((0:Nat):Int)=K at hkd hok hkl
  rcases Nat.eq_zero_or_pos p.length with h0|h0
  ·obtain rfl:=List.eq_nil_of_length_eq_zero h0
   have hpr:=ER E rs;have heq:=Ei [] (by decide);have hor:=Cx
   repeat'(first|exact y0|refine y1 ?_|refine y2 ?_ ?_|(refine y8 ?_ ?_<;>intro h<;>try(exact y6))|(refine wC ?_;first|refine wF 12 (pu haw ?_)|refine wF 14 (pu hg ?_)|(refine wF 10 ?_;refine CallG.me [] hn rfl rfl trivial trivial rfl rfl rfl ?_)|(refine wF 30 ?_;refine CallG.mo [] hsp rfl rfl (by rfl) rfl rfl ⟨VLe.refl _,VLe.refl _,trivial⟩ trivial rfl rfl (wr:=[(4,some (spB []))]) (by rfl) ?_)|(refine wF 25 ?_;refine CallG.mo [0,1,2,3,4] L1 rfl rfl rfl rfl rfl ⟨VLe.refl _,VLe.refl _,trivial⟩ ⟨⟨rfl,_,rfl,rfl,fun h=>h⟩,⟨rfl,_,rfl,rfl,fun h=>h⟩,⟨rfl,_,rfl,rfl,fun h=>h⟩,⟨rfl,_,rfl,rfl,fun h=>h⟩,⟨rfl,_,rfl,rfl,fun h=>h⟩,trivial⟩ rfl rfl (wr:=[(0,some (bn 6 7 8 (E.length:Nat) (1+(([(⟨[],rs⟩:Tb)]).length:Int)))),(1,none),(2,none),(3,none),(4,some (spB [])),(6,some (oB E)),(7,some (pB E)),(8,some (tB [⟨[],rs⟩]))]) (by rfl) ?_)|(refine wF 31 ?_;refine CallG.mo [4] hun rfl rfl (by rfl) rfl rfl ⟨VLe.refl _,VLe.refl _,VLe.refl _,trivial⟩ ⟨⟨rfl,_,rfl,rfl,fun h=>h⟩,trivial⟩ rfl rfl (wr:=[(4,some (spB []))]) (by rfl) ?_)|(refine wF 32 ?_;refine CallG.mo [4] hov rfl rfl (by rfl) rfl rfl ⟨VLe.refl _,trivial⟩ ⟨⟨rfl,_,rfl,rfl,fun h=>h⟩,trivial⟩ rfl rfl (wr:=[(4,some (zN (zrN [] ([]:List Nd).length) (mkC++mkC++mkC)))]) (by rfl) ?_)|(refine wF 33 ?_;refine CallG.me [0,6,7,8] hpr rfl rfl ⟨VLe.refl _,VLe.refl _,trivial⟩ ⟨⟨rfl,_,rfl,rfl,fun h=>h⟩,⟨rfl,_,rfl,rfl,fun h=>h⟩,⟨rfl,_,rfl,rfl,fun h=>h⟩,⟨rfl,_,rfl,rfl,fun h=>h⟩,trivial⟩ rfl rfl rfl ?_)|refine wF 34 (pu heq ?_)|(refine wF 32 ?_;refine CallG.mo [] hor rfl rfl (by rfl) rfl rfl ⟨VLe.refl _,trivial⟩ trivial rfl rfl (wr:=[]) (by rfl) ?_)|(refine wF 26 ?_;refine CallG.me [0,6,7,8] hob rfl rfl ⟨VLe.refl _,trivial⟩ ⟨⟨rfl,_,rfl,rfl,fun h=>h⟩,⟨rfl,_,rfl,rfl,fun h=>h⟩,⟨rfl,_,rfl,rfl,fun h=>h⟩,⟨rfl,_,rfl,rfl,fun h=>h⟩,trivial⟩ rfl rfl rfl ?_)|(refine wF 29 ?_;refine CallG.me [0,6,7,8] hkd rfl rfl ⟨VLe.refl _,VLe.refl _,trivial⟩ ⟨⟨rfl,_,rfl,rfl,fun h=>h⟩,⟨rfl,_,rfl,rfl,fun h=>h⟩,⟨rfl,_,rfl,rfl,fun h=>h⟩,⟨rfl,_,rfl,rfl,fun h=>h⟩,trivial⟩ rfl rfl rfl ?_)|(refine wF 35 ?_;refine CallG.me [9,10] hoi rfl rfl ⟨VLe.refl _,trivial⟩ ⟨⟨rfl,_,rfl,rfl,fun h=>h⟩,trivial⟩ rfl rfl rfl ?_)|(refine wF 35 ?_;refine CallG.me [11,12] hok rfl rfl ⟨VLe.refl _,trivial⟩ ⟨⟨rfl,_,rfl,rfl,fun h=>h⟩,trivial⟩ rfl rfl rfl ?_))|refine y3 ?_|refine y7 ?_ ?_|refine y4 ?_|(refine y9 ?_ ?_<;>intro h)|exact y5|fail)
   exact Fin.bool (.inl rfl) rfl rfl
  ·have hpr:=EQ E p rs h0 hb
   have heq:=GP p h0 hb;have hor:=Cv p h0 hb
   repeat'(first|exact y0|refine y1 ?_|refine y2 ?_ ?_|(refine y8 ?_ ?_<;>intro h<;>try(exact y6))|(refine wC ?_;first|refine wF 12 (pu haw ?_)|refine wF 14 (pu hg ?_)|(refine wF 10 ?_;refine CallG.me [] hn rfl rfl trivial trivial rfl rfl rfl ?_)|(refine wF 30 ?_;refine CallG.mo [] hsp rfl rfl (by rfl) rfl rfl ⟨VLe.refl _,VLe.refl _,trivial⟩ trivial rfl rfl (wr:=[(4,some (spB p))]) (by rfl) ?_)|(refine wF 25 ?_;refine CallG.mo [0,1,2,3,4] L1 rfl rfl rfl rfl rfl ⟨VLe.refl _,VLe.refl _,trivial⟩ ⟨⟨rfl,_,rfl,rfl,fun h=>h⟩,⟨rfl,_,rfl,rfl,fun h=>h⟩,⟨rfl,_,rfl,rfl,fun h=>h⟩,⟨rfl,_,rfl,rfl,fun h=>h⟩,⟨rfl,_,rfl,rfl,fun h=>h⟩,trivial⟩ rfl rfl (wr:=[(0,some (bn 6 7 8 (E.length:Nat) (1+(([(⟨p,rs⟩:Tb)]).length:Int)))),(1,none),(2,none),(3,none),(4,some (spB p)),(6,some (oB E)),(7,some (pB E)),(8,some (tB [⟨p,rs⟩]))]) (by rfl) ?_)|(refine wF 31 ?_;refine CallG.mo [4] hun rfl rfl (by rfl) rfl rfl ⟨VLe.refl _,VLe.refl _,VLe.refl _,trivial⟩ ⟨⟨rfl,_,rfl,rfl,fun h=>h⟩,trivial⟩ rfl rfl (wr:=[(4,some (spB p))]) (by rfl) ?_)|(refine wF 32 ?_;refine CallG.mo [4] hov rfl rfl (by rfl) rfl rfl ⟨VLe.refl _,trivial⟩ ⟨⟨rfl,_,rfl,rfl,fun h=>h⟩,trivial⟩ rfl rfl (wr:=[(4,some (zN (zrN p p.length) (mkC++mkC++mkC)))]) (by rfl) ?_)|(refine wF 33 ?_;refine CallG.me [0,6,7,8] hpr rfl rfl ⟨VLe.refl _,VLe.refl _,trivial⟩ ⟨⟨rfl,_,rfl,rfl,fun h=>h⟩,⟨rfl,_,rfl,rfl,fun h=>h⟩,⟨rfl,_,rfl,rfl,fun h=>h⟩,⟨rfl,_,rfl,rfl,fun h=>h⟩,trivial⟩ rfl rfl rfl ?_)|(refine wF 34 ?_;refine CallG.me [9,10] heq rfl rfl ⟨VLe.refl _,VLe.refl _,trivial⟩ ⟨⟨rfl,_,rfl,rfl,fun h=>h⟩,trivial⟩ rfl rfl rfl ?_)|(refine wF 34 ?_;refine CallG.me [15,16] heq rfl rfl ⟨VLe.refl _,VLe.refl _,trivial⟩ ⟨⟨rfl,_,rfl,rfl,fun h=>h⟩,trivial⟩ rfl rfl rfl ?_)|(refine wF 32 ?_;refine CallG.me [9,10] hor rfl rfl ⟨VLe.refl _,trivial⟩ ⟨⟨rfl,_,rfl,rfl,fun h=>h⟩,trivial⟩ rfl rfl rfl ?_)|(refine wF 26 ?_;refine CallG.me [0,6,7,8] hob rfl rfl ⟨VLe.refl _,trivial⟩ ⟨⟨rfl,_,rfl,rfl,fun h=>h⟩,⟨rfl,_,rfl,rfl,fun h=>h⟩,⟨rfl,_,rfl,rfl,fun h=>h⟩,⟨rfl,_,rfl,rfl,fun h=>h⟩,trivial⟩ rfl rfl rfl ?_)|(refine wF 29 ?_;refine CallG.me [0,6,7,8] hkd rfl rfl ⟨VLe.refl _,VLe.refl _,trivial⟩ ⟨⟨rfl,_,rfl,rfl,fun h=>h⟩,⟨rfl,_,rfl,rfl,fun h=>h⟩,⟨rfl,_,rfl,rfl,fun h=>h⟩,⟨rfl,_,rfl,rfl,fun h=>h⟩,trivial⟩ rfl rfl rfl ?_)|(refine wF 35 ?_;refine CallG.me [11,12] hoi rfl rfl ⟨VLe.refl _,trivial⟩ ⟨⟨rfl,_,rfl,rfl,fun h=>h⟩,trivial⟩ rfl rfl rfl ?_)|(refine wF 35 ?_;refine CallG.me [13,14] hok rfl rfl ⟨VLe.refl _,trivial⟩ ⟨⟨rfl,_,rfl,rfl,fun h=>h⟩,trivial⟩ rfl rfl rfl ?_))|refine y3 ?_|refine y7 ?_ ?_|refine y4 ?_|(refine y9 ?_ ?_<;>intro h)|exact y5|fail)
   exact Fin.bool (.inl rfl) rfl rfl
set_option maxRecDepth 100000
theorem DB (l:List Int) (hl:l.length<=20000000000000):FC Tryz.prog 6 [.s (chF l)] 0 [] (bV true) 0 []:=by
 obtain⟨p,hp,hg⟩:=gI l hl
 have hw:wfN p:=fun x hx=>by have:=(hp.wf x hx).1;omega
 have hI:wfI p:=fun x hx=>(hp.wf x hx).2
 have hlen:=(dQ hp.v).1;obtain⟨E,T,z,e,h⟩:=CI p hw hI hp.v;exact DA l p (by omega) hg py E T z e h
end Go.Proofs.YtegjgpldfgjoiaaGreatDoor
