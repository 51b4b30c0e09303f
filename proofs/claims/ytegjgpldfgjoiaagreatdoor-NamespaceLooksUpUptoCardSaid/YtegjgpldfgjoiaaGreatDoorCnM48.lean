import Derived.Test.YtegjgpldfgjoiaaGreatDoorCnM47
import Derived.Test.YtegjgpldfgjoiaaGreatDoorCnM32
set_option linter.all false
namespace Go.Proofs.YtegjgpldfgjoiaaGreatDoor
open Go Ab
set_option maxRecDepth 100000
set_option maxHeartbeats 40000000
abbrev lkH (E:List Ent) (T:List Tb) (nt nl:Nat) (picks:List Int) (c:Nat):Hp:=[(0,some (ik 1 2 3 (E.length:Nat) (1+(T.length:Int)))),(1,some (oB E)),(2,some (pB E)),(3,some (tB T)),(4,some (qX 5 7 9 (aA 0 E).length nt nl E.length (1+(T.length:Int)))),(5,some (oG 5 (aA 0 E))),(11,some {cells:=[.ptr (some (0,0)),.ptr (some (4,0))],ty:=29}),(12,some {cells:=[mC picks,.int .i64 (c:Int)],ty:=97})]
def J5 (picks:List Int) (l:List By) (i:Nat) (s0:By) (c:Nat) (s:By) (c':Nat):Prop:=(¬i<l.length/\s=s0/\c'=c)\/(i<l.length/\∃ r:Nat,FC Tryz.prog 18 [cP,nI (3:Nat)] 1 (cc picks c) (nI r) 1 (cc picks c')/\((r=0/\s=l.getD i [])\/(r≠0/\s=s0)))
theorem BE (picks:List Int) (hl:picks.length<=20000000000000) (l:List By) (hs:∀ i,(l.getD i []).length<=4398046511104) (i:Nat) (s0:By) (h0:s0.length<=4398046511104) (c:Nat) (hc:c<=picks.length):∃ s c',s.length<=4398046511104/\c'<=picks.length/\J5 picks l i s0 c s c':=by
 by_cases h:i<l.length
 ·obtain⟨r,c',_,hc',q⟩:=ax picks hl 3 ac ac c hc
  by_cases e:r=0
  ·exact⟨_,c',hs i,hc',.inr ⟨h,r,q,.inl ⟨e,rfl⟩⟩⟩
  ·exact⟨_,c',h0,hc',.inr ⟨h,r,q,.inr ⟨e,rfl⟩⟩⟩
 ·exact⟨_,c,h0,hc,.inl ⟨h,rfl,rfl⟩⟩
theorem E9 (l1 l2 picks:List Int) (hl:picks.length<=20000000000000) (scopes names:List By) (hs:∀ i,(scopes.getD i []).length<=4398046511104) (hn:∀ i,(names.getD i []).length<=4398046511104) (hsl:scopes.length<=200000000000000) (hnl:names.length<=200000000000000)
 (p1 p2:List Nd) (hg1:FC Tryz.prog 14 [.s (mC l1)] 0 [] (al p1) 0 []) (hg2:FC Tryz.prog 14 [.s (mC l2)] 0 [] (al p2) 0 []) (haw:FC Tryz.prog 12 [] 0 [] (bV true) 0 [])
 (E1 E:List Ent) (T1 T:List Tb) (K1 K:List Rk) (z1 e1 z2 e2:Int) (h1:LoadB p1 E0 [] [] E1 T1 K1 z1 e1) (h2:LoadB p2 E1 T1 K1 E T K z2 e2) (hE:E.length<=1024) (h0:0<E.length) (hsh:IJ E):
 FC Tryz.prog 3 [.s (mC l1),.s (mC l2),.s (aE scopes),.s (aE names),.s (mC picks)] 0 [] (bV true) 0 []:=by
 have hnN:=GJ;have hnR:=Jr;have hb1:=yI h1;have hb2:=yI h2;have hOl:(aA 0 E).length=E.length:=dV _ _;have hob:=HK (aA 0 E) (bY 1 T).length K.length E.length (1+(T.length:Int)) aa;have hnew:=GK picks
 have hobj:=λz=>tV (aA 0 E) (bY 1 T).length K.length E.length (1+(T.length:Int)) z _ rfl aa aa
 have hop:∀ z,(((gD z (aA 0 E)).getD eZ).path).length<=500:=λz=>by
  rw[je];split
  ·have:=hsh (z-((0:Nat):Int)).toNat
   rw[Z00] at this
   cases h:E[(z-((0:Nat):Int)).toNat]? with
   |none=>exact Z08 _
   |some y=>rw[h] at this;exact this
  ·exact Z08 _
 have hlk:=λ(s nm:By) (h3:s.length<=4398046511104) (h4:nm.length<=4398046511104)=>wn (aA 0 E) (bY 1 T).length K.length E.length (1+(T.length:Int)) s nm h3 h4 aa aa
 have hids:((aA 0 E).map (·.1)).length=(aA 0 E).length:=Z0z _;refine wW Tryz.func3 ?_
 repeat'(first|exact y0|refine y1 ?_|refine y2 ?_ ?_|refine y4 λh=>?_|refine wX 12 (bo haw ?_)|refine wX 14 (pu hg1 ?_)|refine wX 14 (pu hg2 ?_)|refine wX 10 (cf [] hnN ?_)|refine wX 11 (cf [] hnR ?_)|(refine wX 13 ?_;refine CallG.mo [0,1,2,3,4,5,6,7,8,9,10] hb1 rfl BR rfl rfl rfl aV ⟨⟨rfl,_,rfl,rfl,λh=>h⟩,⟨rfl,_,rfl,rfl,λh=>h⟩,⟨rfl,_,rfl,rfl,λh=>h⟩,⟨rfl,_,rfl,rfl,λh=>h⟩,⟨rfl,_,rfl,rfl,λh=>h⟩,⟨rfl,_,rfl,rfl,λh=>h⟩,FitP.op rfl rfl (FitP.op rfl rfl trivial)⟩ rfl rfl (wr:=[(0,some (ik 12 13 14 (E1.length:Nat) (1+(T1.length:Int)))),(1,none),(2,none),(3,none),(12,some (oB E1)),(13,some (pB E1)),(14,some (tB T1)),(4,some (qX 15 17 19 (aA 0 E1).length (bY 1 T1).length K1.length E1.length (1+(T1.length:Int)))),(5,none),(7,none),(9,none),(15,some (oG 15 (aA 0 E1))),(17,tR 17 (bY 1 T1)),(19,kR 19 K1)]) (by show [_,_,_,_,_,_,_,_,_,_,_,_,_,_]=_;rw[aH,aH];rfl) ?_)|(refine wX 13 ?_;refine CallG.mo [0,12,13,14,4,15,16,17,18,19,20] hb2 rfl BR rfl rfl rfl aV ⟨⟨rfl,_,rfl,rfl,λh=>h⟩,⟨rfl,_,rfl,rfl,λh=>h⟩,⟨rfl,_,rfl,rfl,λh=>h⟩,⟨rfl,_,rfl,rfl,λh=>h⟩,⟨rfl,_,rfl,rfl,λh=>h⟩,⟨rfl,_,rfl,rfl,λh=>h⟩,FitP.op rfl rfl (FitP.op rfl rfl trivial)⟩ rfl rfl (wr:=[(0,some (ik 21 22 23 (E.length:Nat) (1+(T.length:Int)))),(12,none),(13,none),(14,none),(21,some (oB E)),(22,some (pB E)),(23,some (tB T)),(4,some (qX 24 26 28 (aA 0 E).length (bY 1 T).length K.length E.length (1+(T.length:Int)))),(15,none),(17,none),(19,none),(24,some (oG 24 (aA 0 E))),(26,tR 26 (bY 1 T)),(28,kR 28 K)]) (by show [_,_,_,_,_,_,_,_,_,_,_,_,_,_]=_;rw[aH,aH];rfl) ?_)|(refine wX 15 ?_;refine iq [4,24,25,26,27,28,29] hob ?_ (wr:=[(30,nmB 30 ((aA 0 E).map (·.1)))]))|refine wX 16 (cf [] hnew ?_)|refine y3 ?_|exact y5|fail)
 refine Ex.irow 12 30 ((aA 0 E).map (·.1)) hids rfl rfl rfl rfl ?_;refine Ex.canon [0,21,22,23,4,24,25,26,27,28,29,11,32] 118 [(2,.s (aE scopes)),(3,.s (aE names)),(11,.s (.ptr (some (11,0)))),(12,.s (.frz (λk=>[.int .i64 (((aA 0 E).map (·.1)).getD k 0)]) 1 (aA 0 E).length)),(13,.s (.ptr (some (12,0)))),(14,nI (0:Nat))] (lkH E T (bY 1 T).length K.length picks 0) rfl rfl ⟨VLe.refl _,VLe.refl _,VLe.refl _,VLe.refl _,VLe.refl _,VLe.refl _,trivial⟩ ⟨rfl,rfl,rfl,rfl,rfl,rfl,rfl,rfl,trivial⟩ rfl ?_;refine Ex.inv (σ:=Nat×Nat) (λq=>[(14,nI q.1)]) (λq=>lkH E T (bY 1 T).length K.length picks q.2) (λq=>q.1<=12/\q.2<=picks.length) (λq=>12-q.1) (0,0) rfl (λ_=>rfl) ⟨Z08 _,Z08 _⟩ aV ⟨rfl,rfl,rfl,rfl,rfl,rfl,rfl,rfl,trivial⟩ ?_;rintro⟨i,c⟩ ⟨i1,i2⟩;simp only at i1 i2 |-;by_cases hi:i<12
 ·obtain⟨r,c1,hr,hc1,q1⟩:=ax picks hl (aA 0 E).length aa aa c i2
  obtain⟨n0,c2,hn0,hc2,q2⟩:=jM picks hl c1 hc1;have ho:=hobj (((aA 0 E).map (·.1)).getD r 0);have hp:=hop (((aA 0 E).map (·.1)).getD r 0);generalize (gD (((aA 0 E).map (·.1)).getD r 0) (aA 0 E))=ro at ho hp;obtain⟨s,c3,hs3,hc3,hq3⟩:=BE picks hl scopes hs i (ro.getD eZ).path aa c2 hc2;obtain⟨nm,c4,hn4,hc4,hq4⟩:=BE picks hl names hn i n0 aa c3 hc3;have hk1:=wm E T s nm aa aa;have hk2:=hlk s nm hs3 hn4;rw[oD] at hk2;generalize d7 E s nm=lr at hk1 hk2
  rcases hq3 with ⟨a1,g1,rfl⟩|⟨a1,r3,q3,⟨rfl,g1⟩|⟨a2,g1⟩⟩
  all_goals
   repeat'(first|refine Ex.cutC 76 118 13 [(2,.s (aE scopes)),(3,.s (aE names)),(11,.s (.ptr (some (11,0)))),(12,.s (.frz (λk=>[.int .i64 (((aA 0 E).map (·.1)).getD k 0)]) 1 (aA 0 E).length)),(13,.s (.ptr (some (12,0)))),(14,nI i),(17,sV s),(18,sV n0)] (lkH E T (bY 1 T).length K.length picks c3) rfl (Hold.k ?_) (Hold.k ?_)|exact y0|refine y1 ?_|refine y2 ?_ ?_|refine y4 λh=>?_|refine wX 18 (cf [12] q1 ?_)|refine wX 18 (cf [12] q3 ?_)|refine wX 17 (cf [4,5,6,7,8,9,10] ho ?_)|refine wX 19 (cf [12] q2 ?_)|refine y3 ?_|exact y5|fail)
   all_goals try exact y7
   ·refine⟨?_⟩
    repeat'(first|exact y0|refine y1 ?_|refine y2 ?_ ?_|refine y4 λh=>?_|refine y3 ?_|exact y5|fail)
    all_goals try omega
    exact CutR.at [0,1,2,3,4,5,6,7,8,9,10,11,12] rfl rfl ⟨VLe.refl _,VLe.refl _,VLe.refl _,VLe.refl _,VLe.refl _,VLe.refl _,VLe.of_eq (congrArg sV g1.symm),VLe.refl _,trivial⟩ ⟨rfl,rfl,rfl,rfl,rfl,rfl,rfl,rfl,trivial⟩ rfl
   refine⟨?_⟩
   rcases hq4 with ⟨b1,g2,rfl⟩|⟨b1,r4,q4,⟨rfl,g2⟩|⟨b2,g2⟩⟩
   all_goals
    repeat'(first|refine Ex.cutC 89 118 13 [(2,.s (aE scopes)),(3,.s (aE names)),(11,.s (.ptr (some (11,0)))),(12,.s (.frz (λk=>[.int .i64 (((aA 0 E).map (·.1)).getD k 0)]) 1 (aA 0 E).length)),(13,.s (.ptr (some (12,0)))),(14,nI i),(17,sV s),(18,sV nm)] (lkH E T (bY 1 T).length K.length picks c4) rfl (Hold.k ?_) (Hold.k ?_)|exact y0|refine y1 ?_|refine y2 ?_ ?_|refine y4 λh=>?_|refine wX 18 (cf [12] q4 ?_)|refine y3 ?_|exact y5|fail)
    all_goals try exact y7
    ·refine⟨?_⟩
     repeat'(first|exact y0|refine y1 ?_|refine y2 ?_ ?_|refine y4 λh=>?_|refine y3 ?_|exact y5|fail)
     all_goals try omega
     exact CutR.at [0,1,2,3,4,5,6,7,8,9,10,11,12] rfl rfl ⟨VLe.refl _,VLe.refl _,VLe.refl _,VLe.refl _,VLe.refl _,VLe.refl _,VLe.refl _,VLe.of_eq (congrArg sV g2.symm),trivial⟩ ⟨rfl,rfl,rfl,rfl,rfl,rfl,rfl,rfl,trivial⟩ rfl
    refine⟨?_⟩
    cases lr with
    |none=>
     repeat'(first|exact y0|refine y1 ?_|refine y2 ?_ ?_|refine y4 λh=>?_|refine wX 20 (cf [0,1,2,3] hk1 ?_)|refine wX 21 (cf [4,5,6,7,8,9,10] hk2 ?_)|refine y3 ?_|exact y5|fail)
     all_goals try exact y7
     exact LoopR.same (i+1,c4) ⟨by simp only;omega,hc4⟩ (by simp only;omega) rfl ⟨VLe.of_eq (congrArg nI (by push_cast;omega)),trivial⟩ ⟨rfl,rfl,rfl,rfl,rfl,rfl,rfl,rfl,trivial⟩ rfl rfl ac
    |some k=>
     repeat'(first|exact y0|refine y1 ?_|refine y2 ?_ ?_|refine y4 λh=>?_|refine wX 20 (cf [0,1,2,3] hk1 ?_)|refine wX 21 (cf [4,5,6,7,8,9,10] hk2 ?_)|refine y3 ?_|exact y5|fail)
     all_goals try exact y7
     exact LoopR.same (i+1,c4) ⟨by simp only;omega,hc4⟩ (by simp only;omega) rfl ⟨VLe.of_eq (congrArg nI (by push_cast;omega)),trivial⟩ ⟨rfl,rfl,rfl,rfl,rfl,rfl,rfl,rfl,trivial⟩ rfl rfl ac
 ·obtain rfl:i=12:=aa
  repeat'(first|exact y0|refine y1 ?_|refine y2 ?_ ?_|refine y4 λh=>?_|refine y3 ?_|exact y5|fail)
  exact Fin.bool (.inl rfl) rfl rfl
end Go.Proofs.YtegjgpldfgjoiaaGreatDoor
