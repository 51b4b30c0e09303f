import Derived.Test.YtbokilgdefkmiaaGreatDoorCzB13
import Derived.MapKept
set_option linter.unusedSimpArgs false
set_option linter.unusedVariables false
namespace Go.Proofs.YtbokilgdefkmiaaGreatDoor
open Go Ab
set_option maxRecDepth 100000
set_option maxHeartbeats 1000000
theorem wrap_u64 (x:Int):IntKind.u64.wrap x=x%18446744073709551616:=by rfl
theorem mod_c (x:Int) (n:Nat) (h0:0<n) (h1:n<4611686018427387904):FC Tryz.prog 9 [nI x,nI n] 0 [] (nI (x%18446744073709551616%n)) 0 []:=by
 have hr:0≤x%18446744073709551616:=Int.emod_nonneg _ (by decide);have hr2:0≤x%18446744073709551616%n:=Int.emod_nonneg _ (by omega);have hr3:x%18446744073709551616%n<n:=Int.emod_lt_of_pos _ (by omega);have ht:(x%18446744073709551616).tmod n=x%18446744073709551616%n:=Int.tmod_eq_emod_of_nonneg hr;refine FC.walk (by kernel_rfl) Tryz.func9 rfl rfl ?_;refine Ex.seq (Ex.reg hm (RegX.chunkN 1 rfl rfl ⟨trivial,trivial⟩ (RegX.nilF (Then.normal (Ex.seq (Ex.reg hm (RegX.chunkN 1 rfl rfl ⟨trivial,trivial⟩ ?_)))))));refine RegX.opA [.num (x%18446744073709551616)] rfl rfl ⟨trivial,wrap_u64 x⟩ ?_
 repeat'(first|exact y0|refine y1 ?_|refine y2 ?_ ?_|(refine y8 ?_ ?_<;>intro h<;>try exact y6)|refine Fin.int (.inl rfl) rfl ht|refine y3 ?_|refine y7 ?_ ?_|refine y4 ?_|(refine y9 ?_ ?_<;>intro h)|exact y5|fail)
 all_goals first
  |exact u64_in (by omega) (by omega)
  |(rw[ht];first|exact u64_in (by omega) (by omega)|exact i64_in (by omega) (by omega))
  |omega
def chF (l:List Int):S:=.frz (fun k=>[.int .i64 (l.getD k 0)]) 1 l.length
abbrev chL (l:List Int) (i:Nat):Hp:=[(0,some {cells:=[chF l,.int .i64 (i:Int)],ty:=93})]
abbrev cP:V:=.s (.ptr (some (0,0)))
theorem next_c (l:List Int) (hl:l.length≤20000000000000) (n:Nat) (h0:0<n) (h1:n<4611686018427387904) (i:Nat) (hi:i≤l.length):
 ∃ r i':Nat,r<n∧i'≤l.length∧FC Tryz.prog 28 [cP,nI n] 1 (chL l i) (nI r) 1 (chL l i'):=by
 rcases Nat.lt_or_ge i l.length with h|h
 ·have hm0:=mod_c (l.getD i 0) n h0 h1
  have hr2:0≤l.getD i 0%18446744073709551616%n:=Int.emod_nonneg _ (by omega);have hr3:l.getD i 0%18446744073709551616%n<n:=Int.emod_lt_of_pos _ (by omega);obtain⟨r,hr⟩:=Int.eq_ofNat_of_zero_le hr2;rw[hr] at hm0 hr3;refine⟨r,i+1,by omega,h,?_⟩;unfold chL chF;refine FC.walk (by kernel_rfl) Tryz.func28 rfl rfl ?_
  have hk:(i:Int)+1-1=i:=by omega
  repeat'(first|exact y0|refine y1 ?_|refine y2 ?_ ?_|(refine y8 ?_ ?_<;>intro h<;>try exact y6)|(refine wC ?_;first|refine wF 9 (pu hm0 ?_))|refine y3 ?_|refine y7 ?_ ?_|refine y4 ?_|(refine y9 ?_ ?_<;>intro h)|exact y5|fail)
  refine RegX.chunkN 9 rfl rfl ?_ (RegX.eqv 30 (congrArg nI hk) rfl ?_)
  repeat'(first|exact y0|refine y1 ?_|refine y2 ?_ ?_|(refine y8 ?_ ?_<;>intro h<;>try exact y6)|(refine wC ?_;first|refine wF 9 (pu hm0 ?_))|refine y3 ?_|refine y7 ?_ ?_|refine y4 ?_|(refine y9 ?_ ?_<;>intro h)|exact y5|fail)
  exact⟨.inl rfl,_,[],VLe.refl _,EndOK.by rfl ⟨rfl,trivial⟩ rfl rfl rfl rfl⟩
 ·refine⟨0,i,h0,hi,?_⟩
  unfold chL chF;refine FC.walk (by kernel_rfl) Tryz.func28 rfl rfl ?_
  repeat'(first|exact y0|refine y1 ?_|refine y2 ?_ ?_|(refine y8 ?_ ?_<;>intro h<;>try exact y6)|refine y3 ?_|refine y7 ?_ ?_|refine y4 ?_|(refine y9 ?_ ?_<;>intro h)|exact y5|fail)
  exact⟨.inl rfl,_,[],VLe.refl _,EndOK.by rfl ⟨rfl,trivial⟩ rfl rfl rfl rfl⟩
theorem left_c (l:List Int) (hl:l.length≤20000000000000) (i:Nat) (hi:i≤l.length):
 ∃ b,(b=true↔i<l.length)∧FC Tryz.prog 32 [cP] 1 (chL l i) (bV b) 1 (chL l i):=by
 unfold chL chF
 rcases Nat.lt_or_ge i l.length with h|h
 ·refine⟨true,by simp[h],?_⟩
  refine FC.walk (by kernel_rfl) Tryz.func32 rfl rfl ?_
  repeat'(first|exact y0|refine y1 ?_|refine y2 ?_ ?_|(refine y8 ?_ ?_<;>intro h<;>try exact y6)|refine y3 ?_|refine y7 ?_ ?_|refine y4 ?_|(refine y9 ?_ ?_<;>intro h)|exact y5|fail)
  all_goals first
   |exact⟨.inl rfl,_,[],VLe.refl _,EndOK.by rfl ⟨rfl,trivial⟩ rfl rfl rfl rfl⟩
   |omega
 ·refine⟨false,by simp;omega,?_⟩
  refine FC.walk (by kernel_rfl) Tryz.func32 rfl rfl ?_
  repeat'(first|exact y0|refine y1 ?_|refine y2 ?_ ?_|(refine y8 ?_ ?_<;>intro h<;>try exact y6)|refine y3 ?_|refine y7 ?_ ?_|refine y4 ?_|(refine y9 ?_ ?_<;>intro h)|exact y5|fail)
  all_goals first
   |exact⟨.inl rfl,_,[],VLe.refl _,EndOK.by rfl ⟨rfl,trivial⟩ rfl rfl rfl rfl⟩
   |omega
theorem new_c (l:List Int):FC Tryz.prog 22 [.s (chF l)] 0 [] cP 1 (chL l 0):=by
 unfold chL chF;refine FC.walk (by kernel_rfl) Tryz.func22 rfl rfl ?_
 repeat'(first|exact y0|refine y1 ?_|refine y2 ?_ ?_|(refine y8 ?_ ?_<;>intro h<;>try exact y6)|refine y3 ?_|refine y7 ?_ ?_|refine y4 ?_|(refine y9 ?_ ?_<;>intro h)|exact y5|fail)
 all_goals exact⟨.inl rfl,_,[0],VLe.refl _,EndOK.by rfl ⟨rfl,trivial⟩ rfl rfl rfl rfl⟩
def segsL:List By:=[[65],[66],[67],[68,69,86,48],[80,87,82,48],[95,83,84,65],[77,84,88],[69,86,84],[70,49],[77]]
theorem seg_c (n:Nat) (hn:n<10):∃ s:By,s.length≤4∧FC Tryz.prog 51 [nI n] 0 [] (sV s) 0 []:=by
 have hm0:=mod_c n 10 (by decide) (by decide);rw[show (n:Int)%18446744073709551616%(10:Nat)=(n:Nat) by omega] at hm0
 have key:∀ n:Nat,n<10→FC Tryz.prog 9 [nI n,nI (10:Nat)] 0 [] (nI n) 0 []→FC Tryz.prog 51 [nI n] 0 [] (sV (segsL.getD n [])) 0 []:=by
  intro n hn hm0
  rcases (by omega:n=0∨n=1∨n=2∨n=3∨n=4∨n=5∨n=6∨n=7∨n=8∨n=9) with rfl|rfl|rfl|rfl|rfl|rfl|rfl|rfl|rfl|rfl
  all_goals
   refine FC.walk (by kernel_rfl) Tryz.func51 rfl rfl ?_
   repeat'(first|exact y0|refine y1 ?_|refine y2 ?_ ?_|(refine y8 ?_ ?_<;>intro h<;>try exact y6)|(refine wC ?_;first|refine wF 9 (pu hm0 ?_))|refine Fin.str (.inl rfl) rfl rfl|refine y3 ?_|refine y7 ?_ ?_|refine y4 ?_|(refine y9 ?_ ?_<;>intro h)|exact y5|fail)
 refine⟨segsL.getD n [],?_,key n hn hm0⟩
 match n,hn with
 |0,_=>decide
 |1,_=>decide
 |2,_=>decide
 |3,_=>decide
 |4,_=>decide
 |5,_=>decide
 |6,_=>decide
 |7,_=>decide
 |8,_=>decide
 |9,_=>decide
theorem name_c (l:List Int) (hl:l.length≤20000000000000) (i:Nat) (hi:i≤l.length):
 ∃ (s:By) (i':Nat),s.length≤5∧i'≤l.length∧FC Tryz.prog 49 [cP] 1 (chL l i) (sV s) 1 (chL l i'):=by
 obtain⟨k,i1,hk,hi1,hc1⟩:=next_c l hl 6 (by decide) (by decide) i hi;obtain⟨m,i2,hm2,hi2,hc2⟩:=next_c l hl 10 (by decide) (by decide) i1 hi1;obtain⟨s,hs,hc3⟩:=seg_c m hm2;by_cases h4:k=4
 ·subst h4
  refine⟨92::s,i2,by simp only[List.length_cons];omega,hi2,?_⟩;refine FC.walk (by kernel_rfl) Tryz.func49 rfl rfl ?_
  repeat'(first|exact y0|refine y1 ?_|refine y2 ?_ ?_|(refine y8 ?_ ?_<;>intro h<;>try exact y6)|(refine wC ?_;first|refine wF 28 (cm hc1 ?_)|refine wF 28 (cm hc2 ?_)|refine wF 51 (pu hc3 ?_))|refine y3 ?_|refine y7 ?_ ?_|refine y4 ?_|(refine y9 ?_ ?_<;>intro h)|exact y5|fail)
  all_goals first
   |exact⟨.inl rfl,_,[],VLe.refl _,EndOK.by rfl ⟨rfl,trivial⟩ rfl rfl rfl rfl⟩
   |omega
   |(show 1+List.length s<9223372036854775808;omega)
   |(show (1:Int)+(List.length s:Int)≤_;omega)
 ·by_cases h5:k=5
  ·subst h5
   refine⟨94::s,i2,by simp only[List.length_cons];omega,hi2,?_⟩;refine FC.walk (by kernel_rfl) Tryz.func49 rfl rfl ?_
   repeat'(first|exact y0|refine y1 ?_|refine y2 ?_ ?_|(refine y8 ?_ ?_<;>intro h<;>try exact y6)|(refine wC ?_;first|refine wF 28 (cm hc1 ?_)|refine wF 28 (cm hc2 ?_)|refine wF 51 (pu hc3 ?_))|refine y3 ?_|refine y7 ?_ ?_|refine y4 ?_|(refine y9 ?_ ?_<;>intro h)|exact y5|fail)
   all_goals first
    |exact⟨.inl rfl,_,[],VLe.refl _,EndOK.by rfl ⟨rfl,trivial⟩ rfl rfl rfl rfl⟩
    |omega
    |(show 1+List.length s<9223372036854775808;omega)
    |(show (1:Int)+(List.length s:Int)≤_;omega)
  ·have h4': ¬(k:Int)=4:=by omega
   have h5': ¬(k:Int)=5:=by omega
   refine⟨s,i2,by omega,hi2,?_⟩;refine FC.walk (by kernel_rfl) Tryz.func49 rfl rfl ?_
   repeat'(first|exact y0|refine y1 ?_|refine y2 ?_ ?_|(refine y8 ?_ ?_<;>intro h<;>try exact y6)|(refine wC ?_;first|refine wF 28 (cm hc1 ?_)|refine wF 28 (cm hc2 ?_)|refine wF 51 (pu hc3 ?_))|refine y3 ?_|refine y7 ?_ ?_|refine y4 ?_|(refine y9 ?_ ?_<;>intro h)|exact y5|fail)
   all_goals first
    |exact⟨.inl rfl,_,[],VLe.refl _,EndOK.by rfl ⟨rfl,trivial⟩ rfl rfl rfl rfl⟩
    |omega
    |(show 1+List.length s<9223372036854775808;omega)
    |(show (1:Int)+(List.length s:Int)≤_;omega)
theorem number_c (l:List Int) (hl:l.length≤20000000000000) (i:Nat) (hi:i≤l.length):
 ∃ (x:Int) (i':Nat),0≤x∧i'≤l.length∧FC Tryz.prog 30 [cP] 1 (chL l i) (.s (.int .u64 x)) 1 (chL l i'):=by
 obtain⟨k,i1,hk,hi1,hc1⟩:=next_c l hl 8 (by decide) (by decide) i hi;obtain⟨m,i2,hm2,hi2,hc2⟩:=next_c l hl 1073741824 (by decide) (by decide) i1 hi1;obtain⟨m3,i3,hm3,hi3,hc3⟩:=next_c l hl 9 (by decide) (by decide) i1 hi1;by_cases h4:k=6
 ·subst h4
  refine⟨18446744073709551615,i1,by decide,hi1,?_⟩;refine FC.walk (by kernel_rfl) Tryz.func30 rfl rfl ?_
  repeat'(first|exact y0|refine y1 ?_|refine y2 ?_ ?_|(refine y8 ?_ ?_<;>intro h<;>try exact y6)|(refine wC ?_;first|refine wF 28 (cm hc1 ?_))|refine y3 ?_|refine y7 ?_ ?_|refine y4 ?_|(refine y9 ?_ ?_<;>intro h)|exact y5|fail)
  all_goals first
   |exact⟨.inl rfl,_,[],VLe.refl _,EndOK.by rfl ⟨rfl,trivial⟩ rfl rfl rfl rfl⟩
   |omega
 ·by_cases h5:k=7
  ·subst h5
   refine⟨(m:Int)*3,i2,by omega,hi2,?_⟩;refine FC.walk (by kernel_rfl) Tryz.func30 rfl rfl ?_
   repeat'(first|exact y0|refine y1 ?_|refine y2 ?_ ?_|(refine y8 ?_ ?_<;>intro h<;>try exact y6)|(refine wC ?_;first|refine wF 28 (cm hc1 ?_)|refine wF 28 (cm hc2 ?_))|refine y3 ?_|refine y7 ?_ ?_|refine y4 ?_|(refine y9 ?_ ?_<;>intro h)|exact y5|fail)
   all_goals first
    |exact⟨.inl rfl,_,[],VLe.refl _,EndOK.by rfl ⟨rfl,trivial⟩ rfl rfl rfl rfl⟩
    |exact u64_in (by omega) (by omega)
    |omega
  ·have h4': ¬(k:Int)=6:=by omega
   have h5': ¬(k:Int)=7:=by omega
   refine⟨(m3:Int),i3,by omega,hi3,?_⟩;refine FC.walk (by kernel_rfl) Tryz.func30 rfl rfl ?_
   repeat'(first|exact y0|refine y1 ?_|refine y2 ?_ ?_|(refine y8 ?_ ?_<;>intro h<;>try exact y6)|(refine wC ?_;first|refine wF 28 (cm hc1 ?_)|refine wF 28 (cm hc3 ?_))|refine y3 ?_|refine y7 ?_ ?_|refine y4 ?_|(refine y9 ?_ ?_<;>intro h)|exact y5|fail)
   all_goals first
    |exact⟨.inl rfl,_,[],VLe.refl _,EndOK.by rfl ⟨rfl,trivial⟩ rfl rfl rfl rfl⟩
    |exact u64_in (by omega) (by omega)
    |omega
end Go.Proofs.YtbokilgdefkmiaaGreatDoor
namespace Go.Proofs.YtbokilgdefkmiaaGreatDoor
namespace Ab
open Go
section
variable {P:Program} {f:FuncId} {args:List V} {n:Nat} {L L1:Hp} {v:V} {n':Nat} {L':Hp}
theorem SC.post (h:SC P f args n L v n' L1) (hs:SubF L' L1):SC P f args n L v n' L':=by
 intro φ xs w hx hg hf;refine (h φ xs w hx hg hf).mono ?_;rintro e w' ⟨φ',x,he,hv,hg',hn,st,hle,hag⟩;refine⟨φ',x,he,hv,hg'.subF hs,hn,⟨st.os,st.tape,st.output,st.size,st.keep,fun j bl b hj hb hlt=>?_,st.zle,st.zfr⟩,hle,hag⟩;obtain⟨bl0,e1,e2,_⟩:=hs j bl hj;obtain⟨k,bl',c,hk,q1,q2,q3,q4⟩:=st.fresh j bl0 b e1 hb hlt;exact⟨k,bl',c,hk,q1,q2,fun hr=>e2.trans (q3 hr),q4⟩
theorem SC.pre (h:SC P f args n L1 v n' L') (hs:SubF L1 L):SC P f args n L v n' L':=by
 intro φ xs w hx hg hf;refine (h φ xs w hx (hg.subF hs) hf).mono ?_;rintro e w' ⟨φ',x,he,hv,hg',hn,st,hle,hag⟩;refine⟨φ',x,he,hv,hg',hn,⟨st.os,st.tape,st.output,st.size,fun b hb hn=>st.keep b hb fun hw=>hn (hw.subF hs),fun j bl b hj hb hlt=>?_,st.zle,fun x l hx=>?_⟩,hle,hag⟩
 ·obtain⟨k,bl',c,hk,q1,q2,q3,q4⟩:=st.fresh j bl b hj hb hlt
  obtain⟨bl0,e1,e2,_⟩:=hs k bl' hk;exact⟨k,bl0,c,e1,q1,q2,fun hr=>q3 (e2.trans hr),q4.imp id fun hr=>e2▸hr⟩
 ·rcases st.zfr x l hx with q|q|q
  ·exact .inl q
  ·exact .inr (.inl q)
  ·exact .inr (.inr (q.subF hs))
theorem FC.post (h:FC P f args n L v n' L1) (hs:SubF L' L1):FC P f args n L v n' L':=⟨h.1,h.2.post hs⟩
theorem FC.pre (h:FC P f args n L1 v n' L') (hs:SubF L1 L):FC P f args n L v n' L':=⟨h.1,h.2.pre hs⟩
end
theorem SubF.refl (L:Hp):SubF L L:=fun i bl h=>⟨bl,h,rfl,fun _ _ _ h=>h⟩
theorem SubF.one {L L':Hp} (i:Nat) {bl bl':Bl} (h1:lk L i=some bl) (h2:∀ j,lk L' j=if i=j then some bl' else lk L j) (hr:bl'.ro=bl.ro) (hb:∀ φ w b,BlAt φ w b bl→BlAt φ w b bl'):SubF L' L:=by
 intro j c hj;rw[h2] at hj;split at hj
 ·rename_i e;subst e;cases hj;exact⟨bl,h1,hr,hb⟩
 ·exact⟨c,hj,rfl,fun _ _ _ h=>h⟩
theorem BlAt.cells {φ:Ph} {w:World} {b:Nat×Nat} {bl:Bl} {cs:List S} (hc:All2 SLe bl.cells cs) (h:BlAt φ w b bl):BlAt φ w b {bl with cells:=cs}:=by
 obtain⟨pre,xs,rest,fr,h1,h2,h3,h4,h5,h6⟩:=h;refine⟨pre,xs,rest,fr,h1,h2,?_,h4,h5,h6⟩;exact SLe.alls hc h3
def opB (ty g w:Nat):List S→Option Bl
 |[]=>none
 |c::cs=>some {cells:=c::cs,ty:=ty,more:=true,sym:=true,flat:=true,gh:=some (g,w)}
theorem renO_op {r:Nat→Nat} {ty g w:Nat} {cs:List S}:renO r (opB ty g w cs)=opB ty (r g) w cs:=by cases cs<;>rfl
theorem okH_op {n i ty g w:Nat} {cs:List S} {t:Hp} (h1:Nat.blt i n=true) (h2:Nat.blt g n=true) (k:okH n t=true):okH n ((i,opB ty g w cs)::t)=true:=by
 cases cs with
 |nil=>exact k
 |cons c cs=>simp only[opB,okH,okB,okG,h1,h2,k,Bool.and_self]
theorem FitP.op {tbl:List Nat} {new:Nat} {M:Hp} {i ty g w:Nat} {cs:List S} {t:Hp} (h1:Nat.blt i tbl.length=true) (h2:lk M (tbl.getD i 0)=opB ty (rn tbl new g) w cs) (k:FitP tbl new M t):FitP tbl new M ((i,opB ty g w cs)::t):=by
 cases cs with
 |nil=>exact k
 |cons c cs=>exact⟨⟨h1,_,h2,rfl,fun h=>h⟩,k⟩
theorem MemP.op {r:Nat→Nat} {M:Hp} {i ty g w:Nat} {cs:List S} {t:Hp} (h2:lk M (r i)=opB ty (r g) w cs) (k:MemP r M t):MemP r M ((i,opB ty g w cs)::t):=by
 cases cs with
 |nil=>exact k
 |cons c cs=>exact⟨h2,k⟩
theorem SubP.op {M:Hp} {i ty g w:Nat} {cs:List S} {t:Hp} (h2:lk M i=opB ty g w cs) (k:SubP M t):SubP M ((i,opB ty g w cs)::t):=by
 cases cs with
 |nil=>exact k
 |cons c cs=>exact⟨h2,k⟩
def callW2 (tbl:List Nat) (new:Nat) (L0:Hp):Hp→Hp
 |[]=>[]
 |(i,c)::t=>
  match Nat.blt i tbl.length with
  |true=>
   match c with
   |none=>(rn tbl new i,none)::callW2 tbl new L0 t
   |some c=>
    match lk L0 i with
    |some b=>match b.ro with|true=>callW2 tbl new L0 t|false=>(rn tbl new i,some (renB (rn tbl new) c))::callW2 tbl new L0 t
    |none=>callW2 tbl new L0 t
  |false=>(rn tbl new i,renO (rn tbl new) c)::callW2 tbl new L0 t
theorem mem_callW2 {tbl:List Nat} {new:Nat} {L0:Hp}:∀ {L0':Hp} {x:Nat} {c:Option Bl},(x,c)∈callW2 tbl new L0 L0'→
 ∃ i d,(i,d)∈L0'∧rn tbl new i=x∧c=d.map (renB (rn tbl new))∧(d=none∨tbl.length≤i∨∃ b,lk L0 i=some b∧b.ro=false)
 |(j,d)::t,x,c,h=>by
  simp only[callW2] at h
  have rest:(x,c)∈callW2 tbl new L0 t→∃ i d',(i,d')∈(j,d)::t∧rn tbl new i=x∧c=d'.map (renB (rn tbl new))∧(d'=none∨tbl.length≤i∨∃ b,lk L0 i=some b∧b.ro=false):=fun h=>by
   obtain⟨i,d',h1,h2⟩:=mem_callW2 h;exact⟨i,d',.tail _ h1,h2⟩
  have here:∀ d1:Option Bl,d1=d.map (renB (rn tbl new))→(d=none∨tbl.length≤j∨∃ b,lk L0 j=some b∧b.ro=false)→(x,c)∈(rn tbl new j,d1)::callW2 tbl new L0 t→
   ∃ i d',(i,d')∈(j,d)::t∧rn tbl new i=x∧c=d'.map (renB (rn tbl new))∧(d'=none∨tbl.length≤i∨∃ b,lk L0 i=some b∧b.ro=false):=by
   intro d1 hd1 hc h
   rcases List.mem_cons.1 h with e|h
   ·simp only[Prod.mk.injEq] at e
    exact⟨j,d,.head _,e.1.symm,by rw[e.2,hd1],hc⟩
   ·exact rest h
  split at h
  ·rename_i hlt
   split at h
   ·exact here _ rfl (.inl rfl) h
   ·split at h
    ·rename_i b hb
     split at h
     ·exact rest h
     ·rename_i hro;exact here _ rfl (.inr (.inr ⟨b,hb,hro⟩)) h
    ·exact rest h
  ·rename_i hge
   refine here _ (by cases d<;>rfl) (.inr (.inl ?_)) h
   rcases Nat.lt_or_ge j tbl.length with hl|hl
   ·rw[blt_iff.2 hl] at hge;cases hge
   ·exact hl
theorem callW2_has {tbl:List Nat} {new:Nat} {L0:Hp} {i:Nat} {b:Bl} (hb:lk L0 i=some b) (hro:b.ro=false) (hi:i<tbl.length):∀ {L0':Hp},i∈keys L0'→rn tbl new i∈keys (callW2 tbl new L0 L0')
 |(j,d)::t,h=>by
  simp only[keys,List.map_cons,List.mem_cons] at h;simp only[callW2]
  rcases h with rfl|h
  ·rw[blt_iff.2 hi]
   cases d<;>simp only[hb,hro,keys,List.map_cons,List.mem_cons,true_or]
  ·have ih:=callW2_has (new:=new) hb hro hi (L0':=t) h
   split
   ·split
    ·simp only[keys,List.map_cons,List.mem_cons];exact .inr ih
    ·split
     ·split
      ·exact ih
      ·simp only[keys,List.map_cons,List.mem_cons];exact .inr ih
     ·exact ih
   ·simp only[keys,List.map_cons,List.mem_cons];exact .inr ih
theorem after_callW2 {tbl:List Nat} {new:Nat} {L0 L0' M:Hp} (hs:allSaid L0 L0'=true) (hn:nodupB (keys L0')=true):After tbl new L0 L0' M (puts M (callW2 tbl new L0 L0')):=by
 intro x bl hx;by_cases hk:x∈keys (callW2 tbl new L0 L0')
 ·left
  obtain⟨c,hc,he⟩:=lk_puts_mem _ M x hk;rw[he] at hx;subst hx;obtain⟨i,d,h1,h2,h3,h4⟩:=mem_callW2 hc
  cases d with
  |none=>simp at h3
  |some bl0=>exact⟨i,bl0,h2,lk_of_mem hn h1,by simpa using h3,h4.resolve_left (by simp)⟩
 ·right
  rw[lk_puts_out _ _ _ hk] at hx;refine⟨hx,fun i hi e b hb=>?_⟩
  cases hro:b.ro with
  |true=>rfl
  |false=>
   exfalso;have h1:=List.all_eq_true.1 hs _ (lk_mem hb)
   have h2:i∈keys L0':=by simpa using h1
   have:=callW2_has (tbl:=tbl) (new:=new) hb hro hi h2;rw[rn_lt hi,e] at this;exact hk this
section
variable {P:Program} {b:Nat} {ops:Array Oper} {d:Bool} {acc:List Row} {os:List Oper} {o:Oper} {env:List V} {n:Nat} {L:Hp} {R:Post} {f:FuncId} {xs:Array Operand}
theorem CallG.mo (tbl:List Nat) {args0:List V} {L0:Hp} {v0:V} {n0':Nat} {L0':Hp} (sc:FC P f args0 tbl.length L0 v0 n0' L0')
 (k1:args0.all (okV tbl.length)=true) (k2:okH tbl.length L0=true) (hchk:(allSaid L0 L0'&&nodupB (keys L0')&&Nat.ble tbl.length n0'&&oldB tbl n n0')=true) (k7:aliB tbl L0=true)
 {args1:List V} (ha:xs.toList.map (ev env)=args1) (hle:All2 VLe args1 (args0.map (renV (rn tbl n)))) (ft:FitP tbl n (res tbl L) L0)
 (hw:want ops env o=some true) {v:V} (hv:frcV (renV (rn tbl n) v0) some=some v) {wr:Hp} (hwr:callW2 tbl n L0 L0'=wr)
 (k:RegX P ops d (pushR d o tbl wr acc) os (setD env o.dst v) (n+(n0'-tbl.length)) (puts L wr) R):CallG P ops d acc o f xs os env n L R:=by
 refine⟨fun⟨ts,ho⟩=>?_⟩;obtain⟨hf,sc⟩:=sc;rw[frcV_eq] at hv;cases hv;subst hwr;simp only[Bool.and_eq_true] at hchk;obtain⟨⟨⟨k3,k4⟩,k5⟩,k6⟩:=hchk;unfold fnOK at hf;split at hf
 ·rename_i fn hfn
  simp only[Bool.and_eq_true,Bool.not_eq_true'] at hf;have h:=SC.opW (n:=n) (env:=env) (M:=res tbl L) sc k1 k2 ho rfl hfn hf.1 hf.2 (ha▸hle) (Fits.of k6 k7 ft) (after_callW2 k3 k4);exact RegX.op hw h (Nat.le_add_right _ _) k
 ·cases hf
end
end Ab
end Go.Proofs.YtbokilgdefkmiaaGreatDoor
namespace Go.Proofs.YtbokilgdefkmiaaGreatDoor
namespace Ab
open Go Go.MapKept
def kvC (x:List UInt8×Nat):List S:=[.str x.1,.int .i64 (x.2:Int)]
def mapB (F:List (List UInt8×Nat)):Bl:={cells:=F.flatMap kvC,ty:=0,flat:=true,kind:=some ⟨1,false,List.range F.length,F.length,false⟩}
def lkF:List (List UInt8×Nat)→List UInt8→Option Nat
 |[],_=>none
 |x::t,k=>if x.1=k then some x.2 else lkF t k
def strV (l:List UInt8):Value:=.string ⟨l.toArray⟩
def kvV (x:List UInt8×Nat):List Value:=[strV x.1,.int .i64 (x.2:Int)]
theorem kv_vals {φ:Ph}:∀ {F:List (List UInt8×Nat)} {xs:List Value},All2 (Sr φ) (F.flatMap kvC) xs→xs=F.flatMap kvV
 |[],[],_=>rfl
 |[],_::_,h=>h.elim
 |x::F,[],h=>h.elim
 |x::F,[_],h=>h.2.elim
 |x::F,a::b::xs,h=>by
  have h:Sr φ (.str x.1) a∧Sr φ (.int .i64 (x.2:Int)) b∧All2 (Sr φ) (F.flatMap kvC) xs:=h;obtain⟨h1,h2,h3⟩:=h;have h1:a=strV x.1:=h1;have h2:b=.int .i64 (x.2:Int):=h2;rw[kv_vals h3,h1,h2];rfl
theorem kv_all (φ:Ph):∀ F:List (List UInt8×Nat),All2 (Sr φ) (F.flatMap kvC) (F.flatMap kvV)
 |[]=>trivial
 |x::F=>⟨rfl,rfl,kv_all φ F⟩
def entF:List Nat→List (List UInt8×Nat)→List MapEntry
 |b::bs,x::t=>{key:=strV x.1,val:=.int .i64 (x.2:Int),born:=b}::entF bs t
 |_,_=>[]
theorem ents_entF:∀ (born:List Nat) (F:List (List UInt8×Nat)),ents false 1 born (F.flatMap kvV)=entF born F
 |[],[]=>rfl
 |[],_::_=>rfl
 |_::_,[]=>rfl
 |b::bs,x::F=>by
  show MapEntry.mk (strV x.1) _ b::ents false 1 bs (F.flatMap kvV)=_;rw[ents_entF bs F];rfl
theorem bytes_eq (x y:List UInt8):((⟨x.toArray⟩:ByteArray)==⟨y.toArray⟩)=decide (x=y):=by
 by_cases h:x=y
 ·subst h;simp only[decide_true];exact (bytes_beq _ _).2 rfl
 ·have hne: ¬((⟨x.toArray⟩:ByteArray)=⟨y.toArray⟩):=fun e=>h (by
   have:=congrArg ByteArray.data e
   simpa using this)
  simp only[h,decide_false]
  cases hb:((⟨x.toArray⟩:ByteArray)==⟨y.toArray⟩) with
  |false=>rfl
  |true=>exact absurd ((bytes_beq _ _).1 hb) hne
theorem same_str (x y:List UInt8):Instr.sameNow .string (strV x) (strV y)=some (decide (x=y)):=by
 show some ((⟨x.toArray⟩:ByteArray)==⟨y.toArray⟩)=_;rw[bytes_eq]
theorem find_entF {k:List UInt8}:∀ (F:List (List UInt8×Nat)) (born:List Nat) (i:Nat),born.length=F.length→
 (∀ v,lkF F k=some v→∃ j,Instr.findNow .string (strV k) (entF born F) i=some (some (j,.int .i64 (v:Int))))∧(lkF F k=none→Instr.findNow .string (strV k) (entF born F) i=some none)
 |[],[],i,_=>⟨fun v h=>(by cases h),fun _=>rfl⟩
 |[],_::_,i,h=>by cases h
 |_::_,[],i,h=>by cases h
 |x::F,b::bs,i,h=>by
  have ih:=find_entF (k:=k) F bs (i+1) (by simpa using h);simp only[lkF,entF,Instr.findNow,same_str];by_cases hx:k=x.1
  ·subst hx;simp
  ·rw[if_neg (fun e=>hx e.symm)]
   simp only[hx,decide_false];exact ih
theorem entF_push:∀ (F:List (List UInt8×Nat)) (born:List Nat) (x:List UInt8×Nat) (c:Nat),born.length=F.length→entF (born++[c]) (F++[x])=entF born F++[{key:=strV x.1,val:=.int .i64 (x.2:Int),born:=c}]
 |[],[],_,_,_=>rfl
 |[],_::_,_,_,h=>by cases h
 |_::_,[],_,_,h=>by cases h
 |y::F,b::bs,x,c,h=>by
  show _::entF (bs++[c]) (F++[x])=_::(entF bs F++_)
  rw[entF_push F bs x c (by simpa using h)]
theorem map_at {φ:Ph} {w:World} {b:Nat×Nat} {F:List (List UInt8×Nat)} {r:Bool} (h:BlAt φ w b {mapB F with ro:=r}) (hb:b.2=0):w.heap[b.1]? =some (.map (entF (List.range F.length) F).toArray F.length):=by
 obtain⟨pre,xs,rest,fr,h1,h2,h3,h4,h5,h6⟩:=h;rw[hb] at h2;have:=List.eq_nil_of_length_eq_zero h2;subst this;have:=h4 rfl;subst this;have:=kv_vals h3;subst this;rw[h1];simp only[mapB,objOf,List.nil_append,List.append_nil];rw[ents_entF]
theorem at_map {φ:Ph} {w:World} {b:Nat×Nat} {F:List (List UInt8×Nat)} (h:w.heap[b.1]? =some (.map (entF (List.range F.length) F).toArray F.length)) (hb:b.2=0):BlAt φ w b (mapB F):=by
 refine⟨[],F.flatMap kvV,[],(0,0),?_,by rw[hb];rfl,kv_all _ F,fun _=>rfl,fun _ o ho=>by simp,⟨fun g z e=>(by cases e),fun g e=>(by cases e)⟩⟩;rw[h];simp only[mapB,objOf,List.nil_append,List.append_nil];rw[ents_entF]
section
variable {P:Program} {b:Nat} {ops:Array Oper} {d:Bool} {acc:List Row} {os:List Oper} {o:Oper} {env:List V} {n:Nat} {L:Hp} {R:Post}
theorem RegX.lkp {r0:Bool} {dst:Option Tmp} {x ix:Operand} {tx kt et:TypeId} {t:TypeId} {pos:String} {af:Array Edge} {gd:Option (Nat×Bool)} {i:Nat} {key:List UInt8} {F:List (List UInt8×Nat)} (r:Option Nat) (hx:ev env x=.s (.map (some i))) (hix:ev env ix=.s (.str key))
 (hl:lk L i=some {mapB F with ro:=r0}) (hty:P.underlying tx=some (.map kt et)) (hd:P.underlying kt=some .string) (hz:∀ w,(zeroValue et).run P w=.ok (.int .i64 0) w) (hr:lkF F key=r)
 (hw:want ops env ⟨dst,.lookup tx x ix true,t,pos,af,gd⟩=some true)
 (k:RegX P ops d (pushR d ⟨dst,.lookup tx x ix true,t,pos,af,gd⟩ [i] [] acc) os (setD env dst (.tup [.s (.int .i64 ((r.getD 0:Nat):Int)),.s (.bool r.isSome)])) n L R):
 RegX P ops d acc (⟨dst,.lookup tx x ix true,t,pos,af,gd⟩::os) env n L R:=by
 refine RegX.op (foot:=[i]) (wr:=[]) hw (OpL.light fun φ a w hop hg=>?_) (Nat.le_refl _) k;have g1:=hop x (by simp[Op.operands]);have g2:=hop ix (by simp[Op.operands]);rw[hx] at g1;rw[hix] at g2;obtain⟨b,hb,hb2,hv⟩:=g1;have g2:a.eval ix=strV key:=g2;obtain⟨b',hb',hat⟩:=hg.hr i {mapB F with ro:=r0} (by rw[lk_res];simp[hl]);rw[hb] at hb';cases hb';have hm:=map_at hat hb2;have hk:IsKey .string (strV key):=trivial
 have hc:=fun em=>run_checkKey (P:=P) (w:=w) hd hk em 9999
 obtain⟨f1,f2⟩:=find_entF (k:=key) F (List.range F.length) 0 (by simp)
 cases r with
 |none=>
  have hf:=run_findKey (P:=P) (w:=w) hd (f2 hr);refine⟨.tuple #[.int .i64 0,.bool false],?_,[.int .i64 0,.bool false],rfl,rfl,rfl,trivial⟩;simp only[execOp,Instr.lookup,Sem.run_bind,Ab.run_underlying hty,Result.andThen_ok,hv,Go.MapKept.run_getObj_map hm,Sem.run_pure,g2];simp[hc,hf,hz]
 |some v=>
  obtain⟨j,hj⟩:=f1 v hr;have hf:=run_findKey (P:=P) (w:=w) hd hj;refine⟨.tuple #[.int .i64 (v:Int),.bool true],?_,[.int .i64 (v:Int),.bool true],rfl,rfl,rfl,trivial⟩;simp only[execOp,Instr.lookup,Sem.run_bind,Ab.run_underlying hty,Result.andThen_ok,hv,Go.MapKept.run_getObj_map hm,Sem.run_pure,g2];simp[hc,hf]
theorem obj_set {φ:Ph} {w:World} {i:Nat} {b:Nat×Nat} {bl bl':Bl} {ob:Obj} (hg:Good φ [(i,some bl)] w) (hb:φ i=some b) (hro:bl.ro=false) (hro':bl'.ro=false) (hat:BlAt φ {w with heap:=w.heap.setIfInBounds b.1 ob} b bl'):
 Good φ [(i,some bl')] {w with heap:=w.heap.setIfInBounds b.1 ob}∧Stp φ [(i,some bl)] w φ [(i,some bl')] {w with heap:=w.heap.setIfInBounds b.1 ob}:=by
 have one:∀ (c:Bl) j bj,lk [(i,some c)] j=some bj→j=i∧bj=c:=by
  intro c j bj hj;rw[lk_cons] at hj;split at hj
  ·rename_i e;cases hj;exact⟨e.symm,rfl⟩
  ·simp[lk] at hj
 have hwr:Wr φ [(i,some bl)] b.1:=⟨i,bl,b,by simp[lk],hb,rfl,hro⟩
 refine⟨⟨?_,?_,?_,hg.gz⟩,⟨rfl,rfl,rfl,by simp,?_,?_,fun _ _ h=>h,fun _ _ h=> .inl h⟩⟩
 ·intro j bj hj
  obtain⟨rfl,rfl⟩:=one _ _ _ hj;exact⟨b,hb,hat⟩
 ·intro j k bj bk c c' hj hk _ _ _
  obtain⟨rfl,_⟩:=one _ _ _ hj;obtain⟨rfl,_⟩:=one _ _ _ hk;exact .inl rfl
 ·intro c l hc
  obtain⟨⟨ty,fr,h1⟩,h2⟩:=hg.fz c l hc
  have hne:c≠b.1:=fun e=>h2 (e▸hwr)
  refine⟨⟨ty,fr,by simp only[Array.getElem?_setIfInBounds_ne (Ne.symm hne)];exact h1⟩,?_⟩;rintro⟨j,bj,c',hj,hc',e,hr⟩;obtain⟨rfl,rfl⟩:=one _ _ _ hj;rw[hb] at hc';cases hc';exact hne e.symm
 ·intro c _ hn
  have:c≠b.1:=fun e=>hn (e▸hwr)
  simp[Array.getElem?_setIfInBounds_ne (Ne.symm this)]
 ·intro j bj c hj hc _
  obtain⟨rfl,rfl⟩:=one _ _ _ hj;exact⟨j,bl,c,by simp[lk],hc,rfl,(fun e=>by rw[hro] at e;cases e),.inl rfl⟩
theorem RegX.mup {dst:Option Tmp} {x ix y:Operand} {tx kt et:TypeId} {t:TypeId} {pos:String} {af:Array Edge} {gd:Option (Nat×Bool)} {i:Nat} {key:List UInt8} {z:Int} {F:List (List UInt8×Nat)} (m:Nat) (hx:ev env x=.s (.map (some i))) (hix:ev env ix=.s (.str key)) (hy:ev env y=.s (.int .i64 z)) (hm:z=(m:Int))
 (hl:lk L i=some (mapB F)) (hty:P.underlying tx=some (.map kt et)) (hd:P.underlying kt=some .string) (hr:lkF F key=none)
 (hw:want ops env ⟨dst,.mapUpdate tx x ix y,t,pos,af,gd⟩=some true)
 (k:RegX P ops d (pushR d ⟨dst,.mapUpdate tx x ix y,t,pos,af,gd⟩ [i] [(i,some (mapB (F++[(key,m)])))] acc) os (setD env dst .undef) n (puts L [(i,some (mapB (F++[(key,m)])))]) R):
 RegX P ops d acc (⟨dst,.mapUpdate tx x ix y,t,pos,af,gd⟩::os) env n L R:=by
 subst hm;refine RegX.op (foot:=[i]) (wr:=[(i,some (mapB (F++[(key,m)])))]) hw ?_ (Nat.le_refl _) k;intro φ a w Q hop hg hf
 have e1:res [i] L=[(i,some (mapB F))]:=by simp[res,hl]
 have e2:puts (res [i] L) [(i,some (mapB (F++[(key,m)])))]=[(i,some (mapB (F++[(key,m)])))]:=by rw[e1];simp[puts,put]
 have g1:=hop x (by simp[Op.operands]);have g2:=hop ix (by simp[Op.operands]);have g3:=hop y (by simp[Op.operands]);rw[hx] at g1;rw[hix] at g2;rw[hy] at g3;obtain⟨b,hb,hb2,hv⟩:=g1;have g2:a.eval ix=strV key:=g2;have g3:a.eval y=.int .i64 (m:Int):=g3;rw[e1] at hg;obtain⟨b',hb',hat⟩:=hg.hr i (mapB F) (by simp[lk]);rw[hb] at hb';cases hb';have hmap:=map_at hat hb2;have hlt:=hat.lt;have hk:IsKey .string (strV key):=trivial
 have hc:=fun em=>run_checkKey (P:=P) (w:=w) hd hk em 9999
 obtain⟨_,f2⟩:=find_entF (k:=key) F (List.range F.length) 0 (by simp);have hfn:=run_findKey (P:=P) (w:=w) hd (f2 hr)
 have hrun:(execOp a.eval ⟨dst,.mapUpdate tx x ix y,t,pos,af,gd⟩).run P w=.ok .skip {w with heap:=w.heap.setIfInBounds b.1 (.map (entF (List.range (F++[(key,m)]).length) (F++[(key,m)])).toArray (F++[(key,m)]).length)}:=by
  simp only[execOp,Instr.mapUpdate,Sem.run_bind,Ab.run_underlying hty,Result.andThen_ok,hv,Go.MapKept.run_getObj_map hmap,Sem.run_pure,g2,g3,hc,hfn];rw[Go.MapKept.run_setObj_map _ hmap];simp only[Result.andThen_ok,List.length_append,List.length_singleton,List.range_succ];rw[entF_push _ _ _ _ (by simp)];simp
 obtain⟨good,stp⟩:=obj_set (bl':=mapB (F++[(key,m)])) (ob:=.map (entF (List.range (F++[(key,m)]).length) (F++[(key,m)])).toArray (F++[(key,m)]).length) hg hb rfl rfl (at_map (by simp[hlt]) hb2);unfold Oper.wp;rw[hrun,Oper.upon_skip];exact⟨φ,Go.undef,rfl,rfl,by rw[e2];exact good,by rw[e2,e1];exact stp,fun _ _=>rfl⟩
theorem RegX.mkm {dst:Option Tmp} {tx:TypeId} {t:TypeId} {pos:String} {af:Array Edge} {gd:Option (Nat×Bool)}
 (hw:want ops env ⟨dst,.makeMap tx none,t,pos,af,gd⟩=some true)
 (k:RegX P ops d (pushR d ⟨dst,.makeMap tx none,t,pos,af,gd⟩ [] [(n,some (mapB []))] acc) os (setD env dst (.s (.map (some n)))) (n+1) (puts L [(n,some (mapB []))]) R):
 RegX P ops d acc (⟨dst,.makeMap tx none,t,pos,af,gd⟩::os) env n L R:=by
 refine RegX.op (foot:=[]) (wr:=[(n,some (mapB []))]) hw ?_ (Nat.le_succ _) k
 have e:puts (res ([]:List Nat) L) [(n,some (mapB []))]=put [] n (some (mapB [])):=by simp[res,puts]
 rw[e]
 refine OpL.fresh (L:=[]) (by simp[lk]) fun φ a w hop _=>?_
 refine⟨.map (some w.heap.size),{w with heap:=w.heap.push (.map #[] 0)},?_,rfl,rfl,rfl,⟨_,rfl⟩,at_map (F:=[]) (by simp[entF]) rfl,fun φ' hn _=>⟨_,hn,rfl,rfl⟩⟩;simp[execOp,Instr.makeMap,newObj,Sem.run]
end
end Ab
end Go.Proofs.YtbokilgdefkmiaaGreatDoor
namespace Go.Proofs.YtbokilgdefkmiaaGreatDoor
namespace Ab
open Go
theorem OpL.conv {P:Program} {o:Oper} {env env1:List V} {n n':Nat} {M M1 M' M1':Hp} {v v1:V} (he:∀ x∈o.op.operands,VLe (ev env x) (ev env1 x)) (hM:∀ j,lk M1 j=lk M j) (hv:VLe v v1) (hM':SubF M1' M')
 (h:OpL P o env1 n M v n' M'):OpL P o env n M1 v1 n' M1':=by
 intro φ a w Q hx hg hf
 have s1:Sub M M1:=fun i bl hi=>by rw[hM];exact hi
 have s2:Sub M1 M:=fun i bl hi=>by rw[←hM];exact hi
 refine Oper.wp_mono ?_ (h φ a w Q (fun x hxo=>he x hxo φ _ (hx x hxo)) (hg.sub s1) hf);rintro a' w' ⟨φ',x,e1,e2,g,st,hφ⟩;refine⟨φ',x,e1,hv φ' x e2,g.subF hM',⟨st.os,st.tape,st.output,st.size,fun b hb hn=>st.keep b hb fun hw=>hn (hw.sub s1),fun j bl b hj hb hlt=>?_,st.zle,fun b l hb=>?_⟩,hφ⟩
 ·obtain⟨bl0,q1,q2,_⟩:=hM' j bl hj
  obtain⟨k,bl',c,hk,r1,r2,r3,r4⟩:=st.fresh j bl0 b q1 hb hlt;exact⟨k,bl',c,s1 _ _ hk,r1,r2,fun hr=>q2.trans (r3 hr),r4⟩
 ·rcases st.zfr b l hb with q|q|q
  ·exact .inl q
  ·exact .inr (.inl q)
  ·exact .inr (.inr (q.sub s1))
section
variable {P:Program} {b:Nat} {ops:Array Oper} {d:Bool} {acc:List Row} {os:List Oper} {o:Oper} {env:List V} {n:Nat} {L:Hp} {R:Post}
theorem RegX.apr {dst:Option Tmp} {td tx:Tmp} {t tx' e:TypeId} {t':TypeId} {pos:String} {af:Array Edge} {gd:Option (Nat×Bool)} {dx:TypeDesc} {inf:TypeInfo} {zs:List S} {i g m w:Nat} {cs:List S} {foot:List Nat} {k:Nat} {add:List S} {D:Prop}
 (hd:env.getD td .undef=.s (.row i g m)) (hl:lk L i=opB e g w cs) (hlen:cs.length=m*w) (hne:Nat.beq td tx=false)
 (ht:P.underlying t=some (.slice e)) (htx:P.underlying tx'=some dx) (hdx:notInt dx=true) (hi:P.info? e=some inf) (hz:zeroOf P e=some zs) (hsz:inf.size=zs.length) (hw:inf.size=w) (hw0:0<w)
 (hs:srcOf L w k (wkV (env.getD tx .undef))=some (foot,k,add,D)) (hD:D) (hk:1≤k) (hadd:add≠[]) (hnp:add.all noPtr=true) (hbig:(m+k)*inf.bytes≤140737488355328) (hmax:m+k≤140737488355328)
 (hwant:want ops env ⟨dst,.call ⟨.builtin .append,#[.tmp td,.tmp tx],#[t,tx']⟩,t',pos,af,gd⟩=some true)
 (kk:RegX P ops d (pushR d ⟨dst,.call ⟨.builtin .append,#[.tmp td,.tmp tx],#[t,tx']⟩,t',pos,af,gd⟩ (i::foot) [(i,none),(n,opB e (n+1) w (cs++add))] acc) os (setD env dst (.s (.row n (n+1) (m+k)))) (n+2) (puts L [(i,none),(n,opB e (n+1) w (cs++add))]) R):
 RegX P ops d acc (⟨dst,.call ⟨.builtin .append,#[.tmp td,.tmp tx],#[t,tx']⟩,t',pos,af,gd⟩::os) env n L R:=by
 refine RegX.op (foot:=i::foot) (wr:=[(i,none),(n,opB e (n+1) w (cs++add))]) hwant ?_ (by omega) kk
 have hnetd:td≠tx:=fun h=>by subst h;rw[Nat.beq_refl] at hne;cases hne
 have tdlt:td<env.length:=by
  rcases Nat.lt_or_ge td env.length with h|h
  ·exact h
  ·rw[List.getD_eq_getElem?_getD,List.getElem?_eq_none h] at hd;cases hd
 have e1:∀ v,(env.set td v).getD td .undef=v:=fun v=>by simp[List.getD_eq_getElem?_getD,tdlt]
 have e2:∀ v,(env.set td v).getD tx .undef=env.getD tx .undef:=fun v=>by simp[List.getD_eq_getElem?_getD,List.getElem?_set_ne hnetd]
 have hopr:∀ v,VLe (.s (.row i g m)) v→∀ x∈(⟨dst,.call ⟨.builtin .append,#[.tmp td,.tmp tx],#[t,tx']⟩,t',pos,af,gd⟩:Oper).op.operands,VLe (ev env x) (ev (env.set td v) x):=by
  intro v hv x hx;simp only[Op.operands,Call.operands] at hx
  have hx:x=.tmp td∨x=.tmp tx:=by simpa using hx
  rcases hx with rfl|rfl
  ·show VLe (env.getD td .undef) _
   rw[hd];show VLe _ ((env.set td v).getD td .undef);rw[e1];exact hv
  ·show VLe (env.getD tx .undef) ((env.set td v).getD tx .undef)
   rw[e2];exact VLe.refl _
 subst hw
 cases cs with
 |nil=>
  have hm:m=0:=by
   rcases Nat.mul_eq_zero.1 hlen.symm with h|h
   ·exact h
   ·omega
  subst hm;have hl:lk L i=none:=hl
  have h0:VLe (.s (.row i g 0)) (.s (.slc none 0 (some 0))):=by
   intro φ v hv
   rcases hv with ⟨_,rfl⟩|⟨h,_⟩
   ·exact⟨rfl,rfl,rfl⟩
   ·omega
  have hfit:fitsIn {cells:=[],ty:=e,flat:=false} add=true:=by
   unfold fitsIn
   refine List.all_eq_true.2 fun x hx=>?_
   have:=List.all_eq_true.1 hnp x hx
   cases x<;>first|rfl|cases this
  have core:=append_core (P:=P) (env:=env.set td (.s (.slc none 0 (some 0)))) (n:=n) (L:=L) (o:=⟨dst,.call ⟨.builtin .append,#[.tmp td,.tmp tx],#[t,tx']⟩,t',pos,af,gd⟩) (d:=.tmp td) (x:=.tmp tx) (fl:=false) (bi:=none) (len:=0) (bl:={cells:=[],ty:=e,flat:=false}) (C:=True) (m:=k) (m0:=k) (cs:=add) (sy:=true) (r:=0+k)
   rfl rfl rfl rfl rfl ht htx hdx hi hz hsz (by show baseOf P L e inf.size false ((env.set td _).getD td .undef)=_;rw[e1];simp only[baseOf,hz,Bool.false_and]) (by show srcOf L inf.size k (wkV ((env.set td _).getD tx .undef))=_;rw[e2];exact hs) trivial hD rfl rfl (by simp) hfit (fun _=>hk) hbig hmax
  refine OpL.conv (hopr _ h0) (fun j=>?_) ?_ ?_ core
  ·rw[lk_res,lk_res]
   by_cases hj:j=i
   ·subst hj;simp[hl]
   ·by_cases hf:j∈foot<;>simp[hj,hf]
  ·exact VLe.s (SLe.slarow (by omega))
  ·intro j bl' hj
   rw[lk_drop]
   cases hadd':([]++add:List S) with
   |nil=>exact absurd (by simpa using hadd') hadd
   |cons c tl=>
    rw[hadd'] at hj;have hj:lk (puts (res (i::foot) L) (dropB (some i)++[(n,some {cells:=c::tl,ty:=e,more:=true,sym:=true,flat:=true,gh:=some (n+1,inf.size)})])) j=some bl':=hj;rw[lk_drop] at hj;split at hj
    ·cases hj
     refine⟨_,if_pos ‹_›,rfl,fun φ w b hb=>?_⟩
     have e3:add=c::tl:=by simpa using hadd'
     rw[e3] at hb hnp;exact BlAt.flat (bl:={cells:=c::tl,ty:=e,more:=true,sym:=true,gh:=some (n+1,inf.size)}) hnp hb
    ·split at hj
     ·cases hj
     ·rename_i hnj hij
      have hij: ¬i=j:=fun h=>hij (by rw[h])
      refine⟨bl',?_,rfl,fun _ _ _ h=>h⟩;rw[if_neg hnj,if_neg (by simp)];rw[lk_res] at hj ⊢;by_cases hf:j∈foot
      ·simpa [hf] using hj
      ·simp[hf,Ne.symm hij] at hj
 |cons c tl=>
  have hm:0<m:=by
   rcases Nat.eq_zero_or_pos m with h|h
   ·subst h;simp at hlen
   ·exact h
  have hl:lk L i=some {cells:=c::tl,ty:=e,more:=true,sym:=true,flat:=true,gh:=some (g,inf.size)}:=hl
  have core:=append_core (P:=P) (env:=env.set td (.s (.sla i g m))) (n:=n) (L:=L) (o:=⟨dst,.call ⟨.builtin .append,#[.tmp td,.tmp tx],#[t,tx']⟩,t',pos,af,gd⟩) (d:=.tmp td) (x:=.tmp tx) (fl:=false) (bi:=some i) (len:=m) (bl:={cells:=c::tl,ty:=e,more:=true,sym:=true,flat:=true,gh:=some (g,inf.size)}) (C:=m*inf.size≤(c::tl).length) (m:=k) (m0:=k) (cs:=(c::tl)++add) (sy:=true) (r:=m+k)
   rfl rfl rfl rfl rfl ht htx hdx hi hz hsz (by show baseOf P L e inf.size false ((env.set td _).getD td .undef)=_;rw[e1];simp[baseOf,hl]) (by show srcOf L inf.size k (wkV ((env.set td _).getD tx .undef))=_;rw[e2];exact hs) (by rw[hlen];exact Nat.le_refl _) hD rfl rfl (by rw[←hlen,List.take_length]) (by unfold fitsIn;simp only;exact hnp) (fun h=>by cases h) hbig hmax
  refine OpL.conv (hopr _ (VLe.s (SLe.rowsla hm))) (fun j=>rfl) (VLe.s (SLe.slarow (by omega))) (SubF.refl _) core
end
section
variable {P:Program} {b:Nat} {c y:Code} {env:List V} {n:Nat} {L:Hp} {R:Post}
theorem Ex.toC {env':List V} {n':Nat} {L':Hp} (hb:b≤n') (h:To b n' env L env' L') (k:Ex P b c env' n' L' R):Ex P b c env n L R:=by
 intro φ a w h1 h2 h3 h4;obtain⟨φ1,g1,g2,g3,g4,g5⟩:=h φ φ L w w a h1 h2 (Stp.refl _ _ _);refine wp_mono (k φ1 a w g1 g2 g3 hb) ?_;rintro x a' w' ⟨φ',e,m,M,hR,k1,k2,k3,k4,k5,k6⟩;exact⟨φ',e,m,M,hR,k1,k2,k3,k4,g4.trans k5,fun i hi=>(k6 i hi).trans (g5 i hi)⟩
def mkE (X:List (Nat×V)):Nat→Nat→List V
 |_,0=>[]
 |i,k+1=>(match fndX X i with|some v=>v|none=> .any)::mkE X (i+1) k
def renX (r:Nat→Nat) (X:List (Nat×V)):List (Nat×V):=X.map fun p=>(p.1,renV r p.2)
theorem fndX_ren {r:Nat→Nat}:∀ {X:List (Nat×V)} {i:Nat},fndX (renX r X) i=(fndX X i).map (renV r)
 |[],_=>rfl
 |(j,v)::t,i=>by
  show fndX ((j,renV r v)::renX r t) i=_;simp only[fndX];split
  ·rfl
  ·exact fndX_ren (X:=t)
theorem mkE_ren {r:Nat→Nat} {X:List (Nat×V)}:∀ (k i:Nat),(mkE X i k).map (renV r)=mkE (renX r X) i k
 |0,_=>rfl
 |k+1,i=>by
  simp only[mkE,List.map_cons,mkE_ren k,fndX_ren];congr 1
  cases fndX X i<;>rfl
theorem mkE_le {X:List (Nat×V)}:∀ {e:List V} {i:Nat},(∀ j v,fndX X (i+j)=some v→VLe (e.getD j .undef) v)→All2 VLe e (mkE X i e.length)
 |[],_,_=>trivial
 |v::e,i,h=>by
  simp only[List.length_cons,mkE];refine⟨?_,mkE_le fun j u hj=>?_⟩
  ·have h0:=h 0
   simp only[Nat.add_zero,List.getD_cons_zero] at h0;split
   ·rename_i u hu;exact h0 u hu
   ·exact VLe.any _
  ·have:=h (j+1) u (by rw[←hj];congr 1;omega)
   simpa using this
def CutOK (b N n':Nat) (X:List (Nat×V)) (H:Hp) (e:List V) (M:Hp):Prop:=
 ∃ tbl:List Nat,tbl.length=n'∧e.length=N∧XLe e (renX (rn tbl 0) X)∧MemP (rn tbl 0) M H∧okSt b tbl (mkE X 0 N) H=true
theorem CutOK.to {b N n':Nat} {X:List (Nat×V)} {H:Hp} {e:List V} {M:Hp} (h:CutOK b N n' X H e M):To b n' e M (mkE X 0 N) H∧b≤n':=by
 obtain⟨tbl,rfl,rfl,h1,h2,h3⟩:=h;refine⟨To.move tbl ?_ h2 h3,?_⟩
 ·rw[mkE_ren]
  exact mkE_le fun j v hj=>h1.at (by simpa using hj)
 ·simp only[okSt,Bool.and_eq_true] at h3
  exact Nat.le_of_ble_eq_true h3.2
def CutR (b N n':Nat) (X:List (Nat×V)) (H:Hp):Post:=fun x e m M=>x=.normal∧CutOK b N n' X H e M
theorem Ex.cut (N n':Nat) (X:List (Nat×V)) (H:Hp) {E:List V} (hE:frcE (mkE X 0 N) [] some=some E) (h:Ex P b c env n L (CutR b N n' X H)) (k:Ex P b y E n' H R):Ex P b c env n L (Then P b y R):=by
 rw[frcE_eq] at hE;have hE:mkE X 0 N=E:=Option.some.inj hE;refine h.mono ?_;rintro x e m M ⟨rfl,hc⟩;obtain⟨h1,h2⟩:=hc.to;exact Ex.toC h2 h1 (hE▸k)
theorem Ex.cutB (id N n':Nat) (X:List (Nat×V)) (H:Hp) {E:List V} (hE:frcE (mkE X 0 N) [] some=some E) (h:Ex P b (.block id c) env n L (CutR b N n' X H)) (k:Ex P b y E n' H R):Ex P b (.block id c) env n L (Then P b y R):=Ex.cut N n' X H hE h k
theorem Ex.cutS (id N n':Nat) (X:List (Nat×V)) (H:Hp) {E:List V} {ops:Array Oper} {d:Bool} (hE:frcE (mkE X 0 N) [] some=some E) (h:Ex P b (.seq (.region id ops d) c) env n L (CutR b N n' X H)) (k:Ex P b y E n' H R):Ex P b (.seq (.region id ops d) c) env n L (Then P b y R):=Ex.cut N n' X H hE h k
theorem Ex.cutC (t:Tmp) (N n':Nat) (X:List (Nat×V)) (H:Hp) {E:List V} {x z:Code} (hE:frcE (mkE X 0 N) [] some=some E) (h:Ex P b (.cond (.tmp t) x z) env n L (CutR b N n' X H)) (k:Ex P b y E n' H R):Ex P b (.cond (.tmp t) x z) env n L (Then P b y R):=Ex.cut N n' X H hE h k
theorem Ex.cutBI (id N n':Nat) (X:List (Nat×V)) (H:Hp) {j:Nat} {E:List V} (hE:frcE (mkE X 0 N) [] some=some E) (h:Ex P b (.block id c) env n L (CutR b N n' X H)) (k:Ex P b y E n' H R):Ex P b (.block id c) env n L (InBlock j (Then P b y R)):=by
 rw[frcE_eq] at hE;have hE:mkE X 0 N=E:=Option.some.inj hE;refine h.mono ?_;rintro x e m M ⟨rfl,hc⟩;obtain⟨h1,h2⟩:=hc.to;exact Ex.toC h2 h1 (hE▸k)
theorem CutR.at {N n':Nat} {X:List (Nat×V)} {H:Hp} {e:List V} {m:Nat} {M:Hp} (tbl:List Nat) (h0:tbl.length=n') (h1:e.length=N) (h2:XLe e (renX (rn tbl 0) X)) (h3:MemP (rn tbl 0) M H) (h4:okSt b tbl (mkE X 0 N) H=true):CutR b N n' X H .normal e m M:=
 ⟨rfl,tbl,h0,h1,h2,h3,h4⟩
theorem Ex.canon (tbl:List Nat) (N:Nat) (X:List (Nat×V)) (H:Hp) {E:List V} (hE:frcE (mkE X 0 N) [] some=some E) (h1:env.length=N) (h2:XLe env (renX (rn tbl 0) X)) (h3:MemP (rn tbl 0) L H) (h4:okSt b tbl (mkE X 0 N) H=true)
 (k:Ex P b c E tbl.length H R):Ex P b c env n L R:=by
 rw[frcE_eq] at hE;have hE:mkE X 0 N=E:=Option.some.inj hE;obtain⟨g1,g2⟩:=CutOK.to (n':=tbl.length) ⟨tbl,rfl,h1,h2,h3,h4⟩;exact Ex.toC g2 g1 (hE▸k)
theorem Ex.canonB (id:Nat) (tbl:List Nat) (N:Nat) (X:List (Nat×V)) (H:Hp) {E:List V} (hE:frcE (mkE X 0 N) [] some=some E) (h1:env.length=N) (k:Ex P b c E tbl.length H (InBlock id R)) (h2:XLe env (renX (rn tbl 0) X)) (h3:MemP (rn tbl 0) L H) (h4:okSt b tbl (mkE X 0 N) H=true):
 Ex P b (.block id c) env n L R:=Ex.canon tbl N X H hE h1 h2 h3 h4 (Ex.block k)
theorem RegX.sto {ops:Array Oper} {d:Bool} {acc:List Row} {os:List Oper} (ans:List Ans) {ty:TypeId} {x z:Operand} {t:TypeId} {pos:String} {af:Array Edge} {gd:Option (Nat×Bool)} {foot:List Nat} {v:V} {wr:Hp} {n':Nat} {as_:List Ans} {C:Prop}
 (hw:want ops env ⟨none,.store ty x z,t,pos,af,gd⟩=some true) (h:aop P ⟨none,.store ty x z,t,pos,af,gd⟩ env n L ans=some ⟨⟨foot,v,wr,n'⟩,as_,C⟩) (hC:C)
 {L':Hp} (hL:frc (puts L wr) [] some=some L')
 (k:RegX P ops d (pushR d ⟨none,.store ty x z,t,pos,af,gd⟩ foot wr acc) os env n' L' R):RegX P ops d acc (⟨none,.store ty x z,t,pos,af,gd⟩::os) env n L R:=by
 rw[frc_eq] at hL;cases hL;exact RegX.opA ans hw h hC k
theorem RegX.ldS {ops:Array Oper} {d:Bool} {acc:List Row} {os:List Oper} (ans:List Ans) {dst:Option Tmp} {ty:TypeId} {x:Operand} {t:TypeId} {pos:String} {af:Array Edge} {gd:Option (Nat×Bool)} {foot:List Nat} {v:V} {as_:List Ans} {C:Prop}
 (hw:want ops env ⟨dst,.load ty x,t,pos,af,gd⟩=some true) (h:aop P ⟨dst,.load ty x,t,pos,af,gd⟩ env n L ans=some ⟨⟨foot,v,[],n⟩,as_,C⟩) (hC:C)
 {env':List V} (he:frcE (setD env dst v) [] some=some env')
 (k:RegX P ops d (pushR d ⟨dst,.load ty x,t,pos,af,gd⟩ foot [] acc) os env' n L R):RegX P ops d acc (⟨dst,.load ty x,t,pos,af,gd⟩::os) env n L R:=by
 rw[frcE_eq] at he;cases he;exact RegX.opA ans hw h hC k
end
end Ab
end Go.Proofs.YtbokilgdefkmiaaGreatDoor
