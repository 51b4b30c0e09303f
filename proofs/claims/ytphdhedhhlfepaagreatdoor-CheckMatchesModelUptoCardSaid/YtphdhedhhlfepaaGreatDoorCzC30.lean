import Derived.Test.YtphdhedhhlfepaaGreatDoorCzC29
import Derived.Test.YtphdhedhhlfepaaGreatDoorCzC28
import Derived.Test.YtphdhedhhlfepaaGreatDoorCzC22
import Derived.Test.YtphdhedhhlfepaaGreatDoorCzC18
import Derived.Test.YtphdhedhhlfepaaGreatDoorCzC12
set_option linter.unusedSimpArgs false
set_option linter.unusedVariables false
namespace Go.Proofs.YtphdhedhhlfepaaGreatDoor
open Go Ab
set_option maxRecDepth 100000
section
variable {p:List Nd} {t:Fo} {cs:List (Bool×Int)}
theorem met_me (ha:t.At p 0) (hv:t.V cs) {i:Nat} (hi:i<t.size) (hop:(p.getD i dN).op=14):
 (t.kid 0 i).size=5+(lastBl (t.kid 0 i)).size∧∀ j,i<j→j<i+1+(t.kid 0 i).size→(ctxT t j).me=(i:Int):=by
 obtain⟨h0,h1,h2,h3,_⟩:=node_kids ha hv hi (by rw[hop];decide);rw[hop,kinds_14] at h2;have hk:=args_where (c':=83) [115,105,105,105] (t.kid 0 i) (by decide) h2;refine⟨by have:=hk.1;simp at this;omega,fun j hj1 hj2=>?_⟩;have hq:(t.kid 0 i).all quiet:=V_quiet h2 (by decide);have:=(kid_kid ha (Nat.zero_le i) (by omega) hj1 hj2 ini).2;show (ctxF t 0 j ini).me=_;rw[this,ctx_me h1 hq hj1 hj2];unfold innI;rw[if_pos hop]
theorem unit_pa (ha:t.At p 0) (hv:t.V cs) {i:Nat} (hi:i<t.size) (hop:(p.getD i dN).op=16):
 (t.kid 0 i).size=4+(lastBl (t.kid 0 i)).size∧t.kid 0 (i+4)=lastBl (t.kid 0 i)∧(ctxT t (i+4)).pa=(i:Int)∧∀ e∈(lastBl (t.kid 0 i)).starts (i+5),(ctxT t e).pa=((i+4:Nat):Int):=by
 obtain⟨h0,h1,h2,h3,_⟩:=node_kids ha hv hi (by rw[hop];decide);rw[hop,kinds_16] at h2;have hk:=args_where (c':=70) [110,105,105] (t.kid 0 i) (by decide) h2;obtain⟨k1,k2⟩:=hk.2 (i+1)
 have e4:i+1+[110,105,105].length=i+4:=by simp
 rw[show (i+1+([110,105,105]:List Int).length)=i+4 by simp] at k1 k2
 have hs:(t.kid 0 i).size=4+(lastBl (t.kid 0 i)).size:=by have:=hk.1;simp at this;omega
 have kk:=kid_kid ha (Nat.zero_le i) (by omega) (show i<i+4 by omega) (by omega) ini
 have c4:ctxT t (i+4)=innI (p.getD i dN) (nameF (t.kid 0 i)) i (ctxT t i):=by
  show ctxF t 0 (i+4) ini=_;rw[kk.2,ctx_start k1]
 have t4:t.kid 0 (i+4)=lastBl (t.kid 0 i):=by rw[kk.1,k2]
 have hle:=kid_size (t:=t) (Nat.zero_le i) (by omega);refine⟨hs,t4,by rw[c4];rfl,fun e he=>?_⟩;have hr:=starts_ge he;have ke:=kid_kid ha (Nat.zero_le (i+4)) (by omega) (show i+4<e by omega) (by rw[t4];omega) ini;show (ctxF t 0 e ini).pa=_;rw[ke.2,t4,ctx_start he];rfl
def ownD (t:Fo) (d:Nat×Nat):Int:=if d.2≤6 then (d.1:Int) else if d.2=7 then (ctxT t (ctxT t d.1).pa.toNat).pa else (ctxT t d.1).me
theorem nodeE_own (ha:t.At p 0) (hv:t.V cs) (F:List (By×Nat)) (T:List Pth) {i:Nat} (hi:i<t.size):(nodeE p F T t i).Nodup∧∀ d∈nodeE p F T t i,4≤d.2∧ownD t d=(i:Int):=by
 have key:(nodeG p F (T.getD i z0) (t.kid 0 i) i []).Nodup∧∀ d∈nodeG p F (T.getD i z0) (t.kid 0 i) i [],5≤d.2∧ownD t d=(i:Int):=by
  have one:∀ c,5≤c→c≤6→([(i,c)]:Dgs).Nodup∧∀ d∈([(i,c)]:Dgs),5≤d.2∧ownD t d=(i:Int):=fun c h5 h6=>by
   refine⟨by simp,fun d hd=>?_⟩;simp at hd;subst hd;exact⟨h5,by unfold ownD;rw[if_pos h6]⟩
  have none':([]:Dgs).Nodup∧∀ d∈([]:Dgs),5≤d.2∧ownD t d=(i:Int):=⟨List.nodup_nil,fun d h=>by cases h⟩
  unfold nodeG;split
  ·split
   ·exact one 5 (by decide) (by decide)
   ·exact none'
  ·split
   ·rename_i hop
    obtain⟨u1,u2,u3,u4⟩:=unit_pa ha hv hi hop;unfold fieldG;split
    ·exact one 6 (by decide) (by decide)
    ·split
     ·exact none'
     ·refine⟨(unitsG_inn _ _ _ _ _ _).1,fun d hd=>?_⟩
      obtain⟨c1,c2⟩:=unitsG_code _ _ _ _ _ _ d hd;refine⟨by omega,?_⟩;unfold ownD;rw[if_neg (by omega),if_pos c1,u4 _ c2,Int.toNat_natCast,u3]
   ·split
    ·split
     ·exact one 6 (by decide) (by decide)
     ·exact none'
    ·split
     ·rename_i hop
      obtain⟨u1,u2⟩:=met_me ha hv hi hop;unfold metG;rw[stmS_app];have hA:=argG_inn p (numN p (i+2)) ((lastBl (t.kid 0 i)).size+1) (i+5);have hS:=stmS_inn false (lastBl (t.kid 0 i)) (i+6) false true;have cA:=argG_code p (numN p (i+2)) ((lastBl (t.kid 0 i)).size+1) (i+5);have cS:=stmS_code false (lastBl (t.kid 0 i)) (i+6) false true;refine⟨List.nodup_append.2 ⟨hA.1,hS.1,fun a h1 b h2 e=>?_⟩,fun d hd=>?_⟩
      ·have:=cA a h1
       have:=cS b h2;rw[e] at*;omega
      ·have hr:i<d.1∧d.1<i+1+(t.kid 0 i).size∧7<d.2:=by
        rcases List.mem_append.1 hd with h|h
        ·have:=hA.2 d h;have:=cA d h;omega
        ·have:=hS.2 d h;have:=cS d h;omega
       refine⟨by omega,?_⟩;unfold ownD;rw[if_neg (by omega),if_neg (by omega)];exact u2 d.1 hr.1 hr.2.1
     ·exact none'
 unfold nodeE;split
 ·refine⟨List.nodup_append.2 ⟨by simp,key.1,fun a h1 b h2 e=>?_⟩,fun d hd=>?_⟩
  ·simp at h1
   have:=(key.2 b h2).1;rw[←e,h1] at this;omega
  ·rcases List.mem_append.1 hd with h|h
   ·simp at h;subst h
    exact⟨Nat.le_refl _,by unfold ownD;rw[if_pos (show (4:Nat)≤6 by decide)]⟩
   ·have:=key.2 d h;exact⟨by omega,this.2⟩
 ·rw[List.nil_append]
  exact⟨key.1,fun d h=>⟨by have:=(key.2 d h).1;omega,(key.2 d h).2⟩⟩
end
theorem flat_nodup {f:Nat→Dgs} {own:Nat×Nat→Int}:∀ {l:List Nat},l.Nodup→(∀ i∈l,(f i).Nodup∧∀ d∈f i,own d=(i:Int))→(l.flatMap f).Nodup
 |[],_,_=>List.nodup_nil
 |i::l,hl,h=>by
  rw[List.flatMap_cons];rw[List.nodup_cons] at hl;refine List.nodup_append.2 ⟨(h i (List.mem_cons_self ..)).1,flat_nodup hl.2 fun j hj=>h j (List.mem_cons_of_mem _ hj),fun a h1 b h2 e=>?_⟩;obtain⟨j,hj,hb⟩:=List.mem_flatMap.1 h2;have e1:=(h i (List.mem_cons_self ..)).2 a h1;have e2:=(h j (List.mem_cons_of_mem _ hj)).2 b hb;rw[e,e2] at e1
  have:j=i:=by omega
  subst this;exact hl.1 hj
theorem headS_G (x:Nd) (nm:Pth) (i:Nat) (sc:Pth) (s:St):∃ E,(headS x nm i sc s).2.G=s.G++E∧Inn i (i+1) E∧∀ d∈E,d.2=2∨d.2=3:=by
 have hn:∃ E,s.G=s.G++E∧Inn i (i+1) E∧∀ d∈E,d.2=2∨d.2=3:=⟨[],by simp,Inn.nil _ _,fun d h=>by cases h⟩
 have h2:∃ E,s.G++[(i,2)]=s.G++E∧Inn i (i+1) E∧∀ d∈E,d.2=2∨d.2=3:=⟨[(i,2)],rfl,Inn.one _ _,fun d h=>by simp at h;rw[h];exact .inl rfl⟩
 unfold headS;split
 ·split
  ·exact hn
  ·exact h2
 ·split
  ·exact hn
  ·split
   ·simp only[St.dec,St.sc,decG]
    split
    ·exact⟨[(i,3)],rfl,Inn.one _ _,fun d h=>by simp at h;rw[h];exact .inr rfl⟩
    ·exact hn
   ·exact h2
theorem declS_G:∀ (m:Bool) (t:Fo) (i:Nat) (sc:Pth) (s:St),∃ E,(declS m t i sc s).G=s.G++E∧Inn i (i+t.size) E∧∀ d∈E,d.2=2∨d.2=3
 |true,.nil,i,_,s=>⟨[],by simp[declS],Inn.nil _ _,fun d h=>by cases h⟩
 |false,.nil,i,_,s=>⟨[],by simp[declS],Inn.nil _ _,fun d h=>by cases h⟩
 |true,.cons x k n,i,sc,s=>by
  simp only[declS,Fo.size];split
  ·obtain⟨E,h1,h2,h3⟩:=declS_G false k (i+1) sc s
   exact⟨E,h1,h2.mono (by omega) (by omega),h3⟩
  ·obtain⟨E,h1,h2,h3⟩:=declS_G true n (i+1+k.size) sc s
   exact⟨E,h1,h2.mono (by omega) (by omega),h3⟩
 |false,.cons x k n,i,sc,s=>by
  simp only[declS,Fo.size];obtain⟨E0,a1,a2,a3⟩:=headS_G x (nameF k) i sc s;split
  ·obtain⟨E1,b1,b2,b3⟩:=declS_G true k (i+1) (headS x (nameF k) i sc s).1 (headS x (nameF k) i sc s).2
   obtain⟨E2,c1,c2,c3⟩:=declS_G false n (i+1+k.size) sc (declS true k (i+1) (headS x (nameF k) i sc s).1 (headS x (nameF k) i sc s).2);refine⟨E0++E1++E2,by rw[c1,b1,a1];simp only[List.append_assoc],Inn.app (Inn.app a2 b2 (by omega) (by omega)) (c2.mono (Nat.le_refl _) (by omega)) (by omega) (by omega),fun d hd=>?_⟩;simp only[List.mem_append] at hd
   rcases hd with (h|h)|h
   ·exact a3 d h
   ·exact b3 d h
   ·exact c3 d h
  ·obtain⟨E2,c1,c2,c3⟩:=declS_G false n (i+1+k.size) sc (headS x (nameF k) i sc s).2
   refine⟨E0++E2,by rw[c1,a1];simp only[List.append_assoc],Inn.app a2 (c2.mono (by omega) (by omega)) (by omega) (by omega),fun d hd=>?_⟩
   rcases List.mem_append.1 hd with h|h
   ·exact a3 d h
   ·exact c3 d h
def allG (p:List Nd) (t:Fo):Dgs:=rowG p (anS p t).F (anS p t).S t p.length 0 (anS p t).G
theorem allG_nodup {p:List Nd} {t:Fo} {cs:List (Bool×Int)} (ha:t.At p 0) (hv:t.V cs) (hs:t.size=p.length):(allG p t).Nodup:=by
 unfold allG;rw[rowG_app];obtain⟨E,h1,h2,h3⟩:=declS_G false t 0 ⟨true,0,[]⟩ (st0 p)
 have hG:(anS p t).G=E:=by
  show (declS false t 0 ⟨true,0,[]⟩ (st0 p)).G=E;rw[h1];rfl
 rw[hG]
 have hrow:∀ i∈List.range' 0 p.length,(nodeE p (anS p t).F (anS p t).S t i).Nodup∧∀ d∈nodeE p (anS p t).F (anS p t).S t i,4≤d.2∧ownD t d=(i:Int):=fun i hi=>by
  have:=List.mem_range'_1.1 hi;exact nodeE_own ha hv _ _ (by omega)
 refine List.nodup_append.2 ⟨h2.1,flat_nodup (own:=ownD t) List.nodup_range' fun i hi=>⟨(hrow i hi).1,fun d hd=>((hrow i hi).2 d hd).2⟩,fun a h4 b h5 e=>?_⟩;obtain⟨i,hi,hb⟩:=List.mem_flatMap.1 h5;have:=h3 a h4;have:=((hrow i hi).2 b hb).1;rw[e] at*;omega
def dlt (x y:Nat×Nat):Prop:=x.1<y.1∨x.1=y.1∧x.2<y.2
theorem srtD_perm (G:Dgs):(srtD G).Perm G:=List.mergeSort_perm G _
theorem srtD_pw (G:Dgs) (h:G.Nodup):(srtD G).Pairwise dlt:=by
 have h1:(srtD G).Pairwise fun x y=>(!(ltOf cfD) y x)=true:=by
  refine List.pairwise_mergeSort (fun a b c h1 h2=>?_) (fun a b=>?_) G
  ·simp only[Bool.not_eq_true'] at h1 h2 ⊢
   rw[nlt_cfD] at h1 h2 ⊢;omega
  ·simp only[Bool.or_eq_true,Bool.not_eq_true']
   rw[nlt_cfD,nlt_cfD];omega
 have h2:(srtD G).Nodup:=(srtD_perm G).nodup_iff.2 h
 refine (h1.and h2).imp fun {a b} hab=>?_
 obtain⟨g1,g2⟩:=hab;simp only[Bool.not_eq_true'] at g1;rw[nlt_cfD] at g1;unfold dlt
 rcases Nat.lt_or_ge a.1 b.1 with h|h
 ·exact .inl h
 ·have e1:a.1=b.1:=by omega
  rcases Nat.lt_or_ge a.2 b.2 with h'|h'
  ·exact .inr ⟨e1,h'⟩
  ·exact absurd (Prod.ext e1 (by omega)) g2
set_option maxRecDepth 100000
set_option maxHeartbeats 2000000
theorem At_eq1 {p:List Nd}:∀ {t t':Fo} {i:Nat},t.At p i→t'.At p i→t.cnt=t'.cnt→t=t'
 | .nil,.nil,_,_,_,_=>rfl
 | .nil,.cons _ _ _,_,_,_,h=>by simp[Fo.cnt] at h
 | .cons _ _ _,.nil,_,_,_,h=>by simp[Fo.cnt] at h
 | .cons x k n,.cons x' k' n',i,h1,h2,h=>by
   obtain⟨a1,a2,a3,a4⟩:=h1;obtain⟨b1,b2,b3,b4⟩:=h2;rw[a1] at b1;cases b1;have hk:=At_eq1 a3 b3 (by omega);subst hk;have hn:=At_eq1 a4 b4 (by simp only[Fo.cnt] at h;omega);subst hn;rfl
theorem At_eq {p:List Nd}:∀ {t t':Fo} {i:Nat},t.At p i→t'.At p i→t.size=t'.size→t=t'
 | .nil,.nil,_,_,_,_=>rfl
 | .nil,.cons _ _ _,_,_,_,h=>by simp only[Fo.size] at h;omega
 | .cons _ _ _,.nil,_,_,_,h=>by simp only[Fo.size] at h;omega
 | .cons x k n,.cons x' k' n',i,h1,h2,h=>by
   obtain⟨a1,a2,a3,a4⟩:=h1;obtain⟨b1,b2,b3,b4⟩:=h2;rw[a1] at b1;cases b1;have hk:=At_eq1 a3 b3 (by omega);subst hk;have hn:=At_eq a4 b4 (by simp only[Fo.size] at h;omega);subst hn;rfl
def awT:Fo:=(.cons ⟨13,0,[],2⟩ (.cons ⟨3,0,[65],0⟩ .nil (.cons ⟨1,1,[],0⟩ .nil .nil)) (.cons ⟨13,0,[],2⟩ (.cons ⟨3,0,[65],0⟩ .nil (.cons ⟨1,2,[],0⟩ .nil .nil)) (.cons ⟨14,0,[],5⟩ (.cons ⟨3,0,[77],0⟩ .nil (.cons ⟨1,1,[],0⟩ .nil (.cons ⟨1,0,[],0⟩ .nil (.cons ⟨1,0,[],0⟩ .nil (.cons ⟨4,0,[],1⟩ (.cons ⟨30,0,[],2⟩ (.cons ⟨7,1,[],0⟩ .nil (.cons ⟨6,0,[],0⟩ .nil .nil)) .nil) .nil))))) .nil)))
theorem aw_at:awT.At awP 0:=by
 unfold awT
 repeat' (first|exact trivial|exact rfl|refine⟨?_,?_⟩)
theorem aw_valid:validN awP=true:=by decide+kernel
theorem aw_G:allG awP awT=[(3,3),(13,9)]:=by decide+kernel
theorem aw_D:(anS awP awT).D=[⟨[92,65],13,0⟩,⟨[92,65],13,3⟩,⟨[92,77],14,6⟩]:=by rfl
theorem aw_srt:srtD [(3,3),(13,9)]=[(3,3),(13,9)]:=by
 unfold srtD;exact List.mergeSort_of_pairwise (by decide)
set_option maxRecDepth 100000
set_option maxHeartbeats 2000000
theorem awake_c:FC Tryz.prog 9 [] 0 [] (bV true) 0 []:=by
 have hw:wfN awP:=by
  intro x hx
  have:∀ x∈awP,x.str.length≤10:=by decide
  have:=this x hx;omega
 have hI:wfI awP:=by
  have:∀ x∈awP,0≤x.int:=by decide
  exact this
 obtain⟨h1,t,ha,hv,hd,hs⟩:=valid_forest aw_valid;have ht:t=awT:=At_eq ha aw_at (by rw[hs];rfl);subst ht;have hdc:=decl_yes awP hw aw_valid h1 awT ha hv hs;have hck:=check_yes awP hw hI aw_valid h1 awT ha hv hs;rw[aw_D] at hdc;rw[show rowG awP (anS awP awT).F (anS awP awT).S awT awP.length 0 (anS awP awT).G=[(3,3),(13,9)] from aw_G,aw_srt] at hck;have heq:=eqD_c [(3,3),(13,9)] [(3,3),(13,9)] (D:=inferInstance) (by decide);rw[show decide (([(3,3),(13,9)]:List (Nat×Nat))=[(3,3),(13,9)])=true from by decide] at heq;have hpa:=parse_c;refine FC.walk (by kernel_rfl) Tryz.func9 rfl rfl ?_
 repeat'(first|exact y0|refine y1 ?_|refine y2 ?_ ?_|(refine y8 ?_ ?_<;>intro h<;>try exact y6)|(refine wC ?_;first|refine wF 21 (pu hpa ?_)|refine wF 15 (pu hdc ?_)|refine wF 16 (pu hck ?_)|(refine wF 22 ?_;refine CallG.pz 16 (fun k=>dgC ([(3,3),(13,9)].getD k (0,0))) 2 heq rfl rfl rfl rfl (fun _ _=>rfl) (fun k j x hk hx=>dg_cell hk hx) rfl ⟨VLe.refl _,VLe.refl _,trivial⟩ rfl rfl rfl ?_))|refine Fin.bool (.inl rfl) rfl ?_|refine y3 ?_|refine y7 ?_ ?_|refine y4 ?_|(refine y9 ?_ ?_<;>intro h)|exact y5|fail)
 refine RegX.atCmp (CmpG.go rfl rfl ⟨⟨by kernel_rfl,by kernel_rfl⟩,trivial⟩ (BrG.any (fun h=>?_) (fun h=>by exfalso;revert h;decide)))
 repeat'(first|exact y0|refine y1 ?_|refine y2 ?_ ?_|(refine y8 ?_ ?_<;>intro h<;>try exact y6)|refine Fin.bool (.inl rfl) rfl ?_|refine y3 ?_|refine y7 ?_ ?_|refine y4 ?_|(refine y9 ?_ ?_<;>intro h)|exact y5|fail)
 all_goals rfl
set_option maxRecDepth 100000
set_option maxHeartbeats 1000000
theorem wrap_u64 (x:Int):IntKind.u64.wrap x=x%18446744073709551616:=by rfl
theorem mod_c (x:Int) (n:Nat) (h0:0<n) (h1:n<4611686018427387904):FC Tryz.prog 13 [nI x,nI n] 0 [] (nI (x%18446744073709551616%n)) 0 []:=by
 have hr:0≤x%18446744073709551616:=Int.emod_nonneg _ (by decide);have hr2:0≤x%18446744073709551616%n:=Int.emod_nonneg _ (by omega);have hr3:x%18446744073709551616%n<n:=Int.emod_lt_of_pos _ (by omega);have ht:(x%18446744073709551616).tmod n=x%18446744073709551616%n:=Int.tmod_eq_emod_of_nonneg hr;refine FC.walk (by kernel_rfl) Tryz.func13 rfl rfl ?_;refine Ex.seq (Ex.reg hm (RegX.chunkN 1 rfl rfl ⟨trivial,trivial⟩ (RegX.nilF (Then.normal (Ex.seq (Ex.reg hm (RegX.chunkN 1 rfl rfl ⟨trivial,trivial⟩ ?_)))))));refine RegX.opA [.num (x%18446744073709551616)] rfl rfl ⟨trivial,wrap_u64 x⟩ ?_
 repeat'(first|exact y0|refine y1 ?_|refine y2 ?_ ?_|(refine y8 ?_ ?_<;>intro h<;>try exact y6)|refine Fin.int (.inl rfl) rfl ht|refine y3 ?_|refine y7 ?_ ?_|refine y4 ?_|(refine y9 ?_ ?_<;>intro h)|exact y5|fail)
 all_goals first
  |exact u64_in (by omega) (by omega)
  |(rw[ht];first|exact u64_in (by omega) (by omega)|exact i64_in (by omega) (by omega))
  |omega
def chF (l:List Int):S:=.frz (fun k=>[.int .i64 (l.getD k 0)]) 1 l.length
abbrev chL (l:List Int) (i:Nat):Hp:=[(0,some {cells:=[chF l,.int .i64 (i:Int)],ty:=96})]
abbrev cP:V:=.s (.ptr (some (0,0)))
theorem next_c (l:List Int) (hl:l.length≤20000000000000) (n:Nat) (h0:0<n) (h1:n<4611686018427387904) (i:Nat) (hi:i≤l.length):
 ∃ r i':Nat,r<n∧i'≤l.length∧FC Tryz.prog 27 [cP,nI n] 1 (chL l i) (nI r) 1 (chL l i'):=by
 rcases Nat.lt_or_ge i l.length with h|h
 ·have hm0:=mod_c (l.getD i 0) n h0 h1
  have hr2:0≤l.getD i 0%18446744073709551616%n:=Int.emod_nonneg _ (by omega);have hr3:l.getD i 0%18446744073709551616%n<n:=Int.emod_lt_of_pos _ (by omega);obtain⟨r,hr⟩:=Int.eq_ofNat_of_zero_le hr2;rw[hr] at hm0 hr3;refine⟨r,i+1,by omega,h,?_⟩;unfold chL chF;refine FC.walk (by kernel_rfl) Tryz.func27 rfl rfl ?_
  have hk:(i:Int)+1-1=i:=by omega
  repeat'(first|exact y0|refine y1 ?_|refine y2 ?_ ?_|(refine y8 ?_ ?_<;>intro h<;>try exact y6)|(refine wC ?_;first|refine wF 13 (pu hm0 ?_))|refine y3 ?_|refine y7 ?_ ?_|refine y4 ?_|(refine y9 ?_ ?_<;>intro h)|exact y5|fail)
  refine RegX.chunkN 9 rfl rfl ?_ (RegX.eqv 30 (congrArg nI hk) rfl ?_)
  repeat'(first|exact y0|refine y1 ?_|refine y2 ?_ ?_|(refine y8 ?_ ?_<;>intro h<;>try exact y6)|(refine wC ?_;first|refine wF 13 (pu hm0 ?_))|refine y3 ?_|refine y7 ?_ ?_|refine y4 ?_|(refine y9 ?_ ?_<;>intro h)|exact y5|fail)
  exact⟨.inl rfl,_,[],VLe.refl _,EndOK.by rfl ⟨rfl,trivial⟩ rfl rfl rfl rfl⟩
 ·refine⟨0,i,h0,hi,?_⟩
  unfold chL chF;refine FC.walk (by kernel_rfl) Tryz.func27 rfl rfl ?_
  repeat'(first|exact y0|refine y1 ?_|refine y2 ?_ ?_|(refine y8 ?_ ?_<;>intro h<;>try exact y6)|refine y3 ?_|refine y7 ?_ ?_|refine y4 ?_|(refine y9 ?_ ?_<;>intro h)|exact y5|fail)
  exact⟨.inl rfl,_,[],VLe.refl _,EndOK.by rfl ⟨rfl,trivial⟩ rfl rfl rfl rfl⟩
theorem left_c (l:List Int) (hl:l.length≤20000000000000) (i:Nat) (hi:i≤l.length):
 ∃ b,(b=true↔i<l.length)∧FC Tryz.prog 28 [cP] 1 (chL l i) (bV b) 1 (chL l i):=by
 unfold chL chF
 rcases Nat.lt_or_ge i l.length with h|h
 ·refine⟨true,by simp[h],?_⟩
  refine FC.walk (by kernel_rfl) Tryz.func28 rfl rfl ?_
  repeat'(first|exact y0|refine y1 ?_|refine y2 ?_ ?_|(refine y8 ?_ ?_<;>intro h<;>try exact y6)|refine y3 ?_|refine y7 ?_ ?_|refine y4 ?_|(refine y9 ?_ ?_<;>intro h)|exact y5|fail)
  all_goals first
   |exact⟨.inl rfl,_,[],VLe.refl _,EndOK.by rfl ⟨rfl,trivial⟩ rfl rfl rfl rfl⟩
   |omega
 ·refine⟨false,by simp;omega,?_⟩
  refine FC.walk (by kernel_rfl) Tryz.func28 rfl rfl ?_
  repeat'(first|exact y0|refine y1 ?_|refine y2 ?_ ?_|(refine y8 ?_ ?_<;>intro h<;>try exact y6)|refine y3 ?_|refine y7 ?_ ?_|refine y4 ?_|(refine y9 ?_ ?_<;>intro h)|exact y5|fail)
  all_goals first
   |exact⟨.inl rfl,_,[],VLe.refl _,EndOK.by rfl ⟨rfl,trivial⟩ rfl rfl rfl rfl⟩
   |omega
theorem new_c (l:List Int):FC Tryz.prog 26 [.s (chF l)] 0 [] cP 1 (chL l 0):=by
 unfold chL chF;refine FC.walk (by kernel_rfl) Tryz.func26 rfl rfl ?_
 repeat'(first|exact y0|refine y1 ?_|refine y2 ?_ ?_|(refine y8 ?_ ?_<;>intro h<;>try exact y6)|refine y3 ?_|refine y7 ?_ ?_|refine y4 ?_|(refine y9 ?_ ?_<;>intro h)|exact y5|fail)
 all_goals exact⟨.inl rfl,_,[0],VLe.refl _,EndOK.by rfl ⟨rfl,trivial⟩ rfl rfl rfl rfl⟩
def segsL:List By:=[[65],[66],[67],[68,69,86,48],[80,87,82,48],[95,83,84,65],[77,84,88],[69,86,84],[70,49],[77]]
theorem seg_c (n:Nat) (hn:n<10):∃ s:By,s.length≤4∧FC Tryz.prog 14 [nI n] 0 [] (sV s) 0 []:=by
 have hm0:=mod_c n 10 (by decide) (by decide);rw[show (n:Int)%18446744073709551616%(10:Nat)=(n:Nat) by omega] at hm0
 have key:∀ n:Nat,n<10→FC Tryz.prog 13 [nI n,nI (10:Nat)] 0 [] (nI n) 0 []→FC Tryz.prog 14 [nI n] 0 [] (sV (segsL.getD n [])) 0 []:=by
  intro n hn hm0
  rcases (by omega:n=0∨n=1∨n=2∨n=3∨n=4∨n=5∨n=6∨n=7∨n=8∨n=9) with rfl|rfl|rfl|rfl|rfl|rfl|rfl|rfl|rfl|rfl
  all_goals
   refine FC.walk (by kernel_rfl) Tryz.func14 rfl rfl ?_
   repeat'(first|exact y0|refine y1 ?_|refine y2 ?_ ?_|(refine y8 ?_ ?_<;>intro h<;>try exact y6)|(refine wC ?_;first|refine wF 13 (pu hm0 ?_))|refine Fin.str (.inl rfl) rfl rfl|refine y3 ?_|refine y7 ?_ ?_|refine y4 ?_|(refine y9 ?_ ?_<;>intro h)|exact y5|fail)
 refine⟨segsL.getD n [],?_,key n hn hm0⟩
 match n,hn with
 |0,_=>decide
 |1,_=>decide
 |2,_=>decide
 |3,_=>decide
 |4,_=>decide
 |5,_=>decide
 |6,_=>decide
 |7,_=>decide
 |8,_=>decide
 |9,_=>decide
theorem name_c (l:List Int) (hl:l.length≤20000000000000) (i:Nat) (hi:i≤l.length):
 ∃ (s:By) (i':Nat),s.length≤5∧i'≤l.length∧FC Tryz.prog 54 [cP] 1 (chL l i) (sV s) 1 (chL l i'):=by
 obtain⟨k,i1,hk,hi1,hc1⟩:=next_c l hl 6 (by decide) (by decide) i hi;obtain⟨m,i2,hm2,hi2,hc2⟩:=next_c l hl 10 (by decide) (by decide) i1 hi1;obtain⟨s,hs,hc3⟩:=seg_c m hm2;by_cases h4:k=4
 ·subst h4
  refine⟨92::s,i2,by simp only[List.length_cons];omega,hi2,?_⟩;refine FC.walk (by kernel_rfl) Tryz.func54 rfl rfl ?_
  repeat'(first|exact y0|refine y1 ?_|refine y2 ?_ ?_|(refine y8 ?_ ?_<;>intro h<;>try exact y6)|(refine wC ?_;first|refine wF 27 (cm hc1 ?_)|refine wF 27 (cm hc2 ?_)|refine wF 14 (pu hc3 ?_))|refine y3 ?_|refine y7 ?_ ?_|refine y4 ?_|(refine y9 ?_ ?_<;>intro h)|exact y5|fail)
  all_goals first
   |exact⟨.inl rfl,_,[],VLe.refl _,EndOK.by rfl ⟨rfl,trivial⟩ rfl rfl rfl rfl⟩
   |omega
   |(show 1+List.length s<9223372036854775808;omega)
   |(show (1:Int)+(List.length s:Int)≤_;omega)
 ·by_cases h5:k=5
  ·subst h5
   refine⟨94::s,i2,by simp only[List.length_cons];omega,hi2,?_⟩;refine FC.walk (by kernel_rfl) Tryz.func54 rfl rfl ?_
   repeat'(first|exact y0|refine y1 ?_|refine y2 ?_ ?_|(refine y8 ?_ ?_<;>intro h<;>try exact y6)|(refine wC ?_;first|refine wF 27 (cm hc1 ?_)|refine wF 27 (cm hc2 ?_)|refine wF 14 (pu hc3 ?_))|refine y3 ?_|refine y7 ?_ ?_|refine y4 ?_|(refine y9 ?_ ?_<;>intro h)|exact y5|fail)
   all_goals first
    |exact⟨.inl rfl,_,[],VLe.refl _,EndOK.by rfl ⟨rfl,trivial⟩ rfl rfl rfl rfl⟩
    |omega
    |(show 1+List.length s<9223372036854775808;omega)
    |(show (1:Int)+(List.length s:Int)≤_;omega)
  ·have h4': ¬(k:Int)=4:=by omega
   have h5': ¬(k:Int)=5:=by omega
   refine⟨s,i2,by omega,hi2,?_⟩;refine FC.walk (by kernel_rfl) Tryz.func54 rfl rfl ?_
   repeat'(first|exact y0|refine y1 ?_|refine y2 ?_ ?_|(refine y8 ?_ ?_<;>intro h<;>try exact y6)|(refine wC ?_;first|refine wF 27 (cm hc1 ?_)|refine wF 27 (cm hc2 ?_)|refine wF 14 (pu hc3 ?_))|refine y3 ?_|refine y7 ?_ ?_|refine y4 ?_|(refine y9 ?_ ?_<;>intro h)|exact y5|fail)
   all_goals first
    |exact⟨.inl rfl,_,[],VLe.refl _,EndOK.by rfl ⟨rfl,trivial⟩ rfl rfl rfl rfl⟩
    |omega
    |(show 1+List.length s<9223372036854775808;omega)
    |(show (1:Int)+(List.length s:Int)≤_;omega)
theorem number_c (l:List Int) (hl:l.length≤20000000000000) (i:Nat) (hi:i≤l.length):
 ∃ (x:Int) (i':Nat),0≤x∧i'≤l.length∧FC Tryz.prog 34 [cP] 1 (chL l i) (.s (.int .u64 x)) 1 (chL l i'):=by
 obtain⟨k,i1,hk,hi1,hc1⟩:=next_c l hl 8 (by decide) (by decide) i hi;obtain⟨m,i2,hm2,hi2,hc2⟩:=next_c l hl 1073741824 (by decide) (by decide) i1 hi1;obtain⟨m3,i3,hm3,hi3,hc3⟩:=next_c l hl 9 (by decide) (by decide) i1 hi1;by_cases h4:k=6
 ·subst h4
  refine⟨18446744073709551615,i1,by decide,hi1,?_⟩;refine FC.walk (by kernel_rfl) Tryz.func34 rfl rfl ?_
  repeat'(first|exact y0|refine y1 ?_|refine y2 ?_ ?_|(refine y8 ?_ ?_<;>intro h<;>try exact y6)|(refine wC ?_;first|refine wF 27 (cm hc1 ?_))|refine y3 ?_|refine y7 ?_ ?_|refine y4 ?_|(refine y9 ?_ ?_<;>intro h)|exact y5|fail)
  all_goals first
   |exact⟨.inl rfl,_,[],VLe.refl _,EndOK.by rfl ⟨rfl,trivial⟩ rfl rfl rfl rfl⟩
   |omega
 ·by_cases h5:k=7
  ·subst h5
   refine⟨(m:Int)*3,i2,by omega,hi2,?_⟩;refine FC.walk (by kernel_rfl) Tryz.func34 rfl rfl ?_
   repeat'(first|exact y0|refine y1 ?_|refine y2 ?_ ?_|(refine y8 ?_ ?_<;>intro h<;>try exact y6)|(refine wC ?_;first|refine wF 27 (cm hc1 ?_)|refine wF 27 (cm hc2 ?_))|refine y3 ?_|refine y7 ?_ ?_|refine y4 ?_|(refine y9 ?_ ?_<;>intro h)|exact y5|fail)
   all_goals first
    |exact⟨.inl rfl,_,[],VLe.refl _,EndOK.by rfl ⟨rfl,trivial⟩ rfl rfl rfl rfl⟩
    |exact u64_in (by omega) (by omega)
    |omega
  ·have h4': ¬(k:Int)=6:=by omega
   have h5': ¬(k:Int)=7:=by omega
   refine⟨(m3:Int),i3,by omega,hi3,?_⟩;refine FC.walk (by kernel_rfl) Tryz.func34 rfl rfl ?_
   repeat'(first|exact y0|refine y1 ?_|refine y2 ?_ ?_|(refine y8 ?_ ?_<;>intro h<;>try exact y6)|(refine wC ?_;first|refine wF 27 (cm hc1 ?_)|refine wF 27 (cm hc3 ?_))|refine y3 ?_|refine y7 ?_ ?_|refine y4 ?_|(refine y9 ?_ ?_<;>intro h)|exact y5|fail)
   all_goals first
    |exact⟨.inl rfl,_,[],VLe.refl _,EndOK.by rfl ⟨rfl,trivial⟩ rfl rfl rfl rfl⟩
    |exact u64_in (by omega) (by omega)
    |omega
set_option maxRecDepth 100000
set_option maxHeartbeats 1000000
abbrev nS (p:List Nd):S:=.frz (fun k=>ndC (p.getD k dN)) 4 p.length
def kidF (K:List (List Nd)):S:=.frz (fun k=>[nS (K.getD k [])]) 1 K.length
def ndS:List Nd→S
 |_::_::l=> .sla 0 1 (l.length+2)
 |_=> .slc (some (0,0)) 1 (some 1)
def ndQ:List Nd→Bl
 |x::y::l=>{cells:=(x::y::l).flatMap ndC,ty:=30,more:=true,sym:=true,flat:=true,gh:=some (1,4)}
 |x::[]=>{cells:=ndC x,ty:=30,flat:=true}
 |[]=>{cells:=[],ty:=30}
theorem nd_len:∀ G:List Nd,(G.flatMap ndC).length=G.length*4
 |[]=>rfl
 |x::G=>by rw[List.flatMap_cons,List.length_append,nd_len G];simp only[List.length_cons];simp[ndC];omega
theorem nd_flat (G:List Nd):flatG (fun k=>ndC (G.getD k dN)) G.length=G.flatMap ndC:=by
 rw[flatG_list]
theorem nd_fit (bl:Bl) (r:List Nd):fitsIn bl (r.flatMap ndC)=true:=by
 have h1:∀ r:List Nd,(r.flatMap ndC).all noPtr=true:=by
  intro r
  induction r with
  |nil=>rfl
  |cons x r ih=>rw[List.flatMap_cons,List.all_append,ih];rfl
 have h2:∀ r:List Nd,(r.flatMap ndC).all nJ=true:=by
  intro r
  induction r with
  |nil=>rfl
  |cons x r ih=>rw[List.flatMap_cons,List.all_append,ih];rfl
 unfold fitsIn;split
 ·exact h1 r
 ·exact h2 r
theorem nd_cell {G:List Nd} {k j:Nat} {x:S} (hk:k<G.length) (hx:(ndC (G.getD k dN))[j]? =some x):(G.flatMap ndC)[k*4+j]? =some x∧pureS x=true:=by
 induction G generalizing k with
 |nil=>simp at hk
 |cons y G ih=>
  cases k with
  |zero=>
   rw[List.flatMap_cons]
   match j,hx with
   |0,hx=>cases hx;exact⟨rfl,rfl⟩
   |1,hx=>cases hx;exact⟨rfl,rfl⟩
   |2,hx=>cases hx;exact⟨rfl,rfl⟩
   |3,hx=>cases hx;exact⟨rfl,rfl⟩
   |_+4,hx=>cases hx
  |succ k=>
   have:=ih (k:=k) (by simpa using hk) (by simpa using hx);rw[List.flatMap_cons,show (k+1)*4+j=(k*4+j)+4 by omega];exact this
theorem nd_one {x:Nd} {k j:Nat} {s:S} (hk:k<1) (hx:(ndC ([x].getD k dN))[j]? =some s):(ndC x)[k*4+j]? =some s∧pureS s=true:=by
 have:=nd_cell (G:=[x]) (k:=k) (j:=j) (x:=s) hk hx
 simpa using this
theorem node_f (op n:Int) (s:By) (K:List (List Nd)) (hK:∀ r∈K,r≠[]) (hn:(K.flatten).length≤1000000000000) (hk:K.length≤4096):
 FC Tryz.prog 46 [nI op,.s (.int .u64 n),sV s,.s (kidF K)] 0 [] (nodes (⟨op,n,s,K.length⟩::K.flatten)) 0 []:=by
 have hsz:(Tryz.prog.types[30]).size=4:=by kernel_rfl
 have hby:(Tryz.prog.types[30]).bytes=40:=by kernel_rfl
 unfold kidF;generalize hT:(⟨op,n,s,K.length⟩::K.flatten:List Nd)=T;refine FC.walk (by kernel_rfl) Tryz.func46 rfl rfl ?_
 repeat'(first|exact y0|refine y1 ?_|refine y2 ?_ ?_|(refine y8 ?_ ?_<;>intro h<;>try exact y6)|refine y3 ?_|refine y7 ?_ ?_|refine y4 ?_|(refine y9 ?_ ?_<;>intro h)|exact y5|fail)
 refine Ex.flat 0 rfl rfl rfl rfl (Ex.set 17 .any (VLe.any _) rfl (Ex.upN (n':=2) (by omega) ?_));refine Ex.inv (σ:=Nat×List Nd) (fun q=>[(10,nI q.1),(9,.s (ndS q.2))]) (fun q=>[(0,some (ndQ q.2))]) (fun q=>q.1≤K.length∧q.2++(K.drop q.1).flatten=T∧q.2≠[]) (fun q=>K.length-q.1) (0,[⟨op,n,s,K.length⟩]) rfl (fun _=>rfl) ?_ ?_ ?_ ?_
 ·exact⟨Nat.zero_le _,by simpa using hT,by simp⟩
 ·exact⟨VLe.refl _,VLe.refl _,trivial⟩
 ·exact⟨rfl,trivial⟩
 ·rintro⟨j,Q⟩ ⟨h1,h2,h3⟩
  simp only at h1 h2 h3 ⊢
  have hTl:T.length≤1000000000001:=by rw[←hT];simp only[List.length_cons];omega
  rcases Nat.lt_or_ge j K.length with hj|hj
  ·have hd:K.drop j=K.getD j []::K.drop (j+1):=by
    rw[List.drop_eq_getElem_cons hj,List.getD_eq_getElem?_getD,List.getElem?_eq_getElem hj];rfl
   have hr:K.getD j []≠[]:=hK _ (by rw[List.getD_eq_getElem?_getD,List.getElem?_eq_getElem hj];exact List.getElem_mem hj);rw[hd,List.flatten_cons,←List.append_assoc] at h2;have hrl:0<(K.getD j []).length:=List.length_pos_iff.2 hr
   have hlen:Q.length+(K.getD j []).length≤1000000000001:=by
    rw[←h2] at hTl;simp only[List.length_append] at hTl;omega
   match Q,h3 with
   |[x],_=>
    repeat'(first|exact y0|refine y1 ?_|refine y2 ?_ ?_|(refine y8 ?_ ?_<;>intro h<;>try exact y6)|refine y3 ?_|refine y7 ?_ ?_|refine y4 ?_|(refine y9 ?_ ?_<;>intro h)|exact y5|fail)
    generalize K.getD j []=r at*;obtain⟨z,r,rfl⟩:=List.exists_cons_of_ne_nil hr;simp only[List.length_cons,List.length_nil] at hlen;refine RegX.app [.app (1+(r.length+1)) (([x]++z::r).flatMap ndC)] rfl rfl ?_ rfl rfl rfl ?_
    ·refine⟨?_,trivial,rfl,rfl,?_,?_,(fun h=>by simp),?_,?_⟩
     ·rw[hsz];rfl
     ·rw[hsz,nd_flat];rfl
     ·rw[nd_flat];exact nd_fit _ _
     ·rw[hby];omega
     ·omega
    repeat'(first|exact y0|refine y1 ?_|refine y2 ?_ ?_|(refine y8 ?_ ?_<;>intro h<;>try exact y6)|refine y3 ?_|refine y7 ?_ ?_|refine y4 ?_|(refine y9 ?_ ?_<;>intro h)|exact y5|fail)
    all_goals try omega
    refine LoopR.move (j+1,[x]++z::r) ⟨hj,h2,by simp⟩ (by simp only;omega) [2,3] rfl ?_ ?_ rfl
    ·repeat' (first|exact VLe.refl _|exact VLe.any _|exact True.intro|(refine VLe.of_eq (congrArg V.s (?_:S.sla 2 3 _=S.sla 2 3 _));simp;omega)|refine⟨?_,?_⟩)
    ·exact⟨rfl,trivial⟩
   |x::y::l,_=>
    repeat'(first|exact y0|refine y1 ?_|refine y2 ?_ ?_|(refine y8 ?_ ?_<;>intro h<;>try exact y6)|refine y3 ?_|refine y7 ?_ ?_|refine y4 ?_|(refine y9 ?_ ?_<;>intro h)|exact y5|fail)
    generalize K.getD j []=r at*;obtain⟨z,r,rfl⟩:=List.exists_cons_of_ne_nil hr;simp only[List.length_cons,List.length_nil] at hlen;refine RegX.app [.app ((l.length+2)+(r.length+1)) (((x::y::l)++z::r).flatMap ndC)] rfl rfl ?_ rfl rfl rfl ?_
    ·refine⟨?_,trivial,rfl,rfl,?_,?_,(fun h=>by simp),?_,?_⟩
     ·rw[hsz];show (l.length+2)*4≤((x::y::l).flatMap ndC).length;rw[nd_len];simp
     ·rw[hsz,nd_flat];show _=List.take ((l.length+2)*4) ((x::y::l).flatMap ndC)++_;rw[List.take_of_length_le (by rw[nd_len];simp),List.flatMap_append]
     ·rw[nd_flat];exact nd_fit _ _
     ·rw[hby];omega
     ·omega
    repeat'(first|exact y0|refine y1 ?_|refine y2 ?_ ?_|(refine y8 ?_ ?_<;>intro h<;>try exact y6)|refine y3 ?_|refine y7 ?_ ?_|refine y4 ?_|(refine y9 ?_ ?_<;>intro h)|exact y5|fail)
    all_goals try omega
    refine LoopR.move (j+1,(x::y::l)++z::r) ⟨hj,h2,by simp⟩ (by simp only;omega) [2,3] rfl ?_ ?_ rfl
    ·repeat' (first|exact VLe.refl _|exact VLe.any _|exact True.intro|(refine VLe.of_eq (congrArg V.s (?_:S.sla 2 3 _=S.sla 2 3 _));simp;omega)|refine⟨?_,?_⟩)
    ·exact⟨rfl,trivial⟩
  ·have hd:K.drop j=[]:=List.drop_eq_nil_of_le hj
   rw[hd] at h2;simp only[List.flatten_nil,List.append_nil] at h2;subst h2
   match Q,h3 with
   |[x],_=>
    repeat'(first|exact y0|refine y1 ?_|refine y2 ?_ ?_|(refine y8 ?_ ?_<;>intro h<;>try exact y6)|refine Ex.fz 8 (fun k=>ndC ([x].getD k dN)) 4 rfl rfl rfl rfl (fun _ _=>rfl) (fun k j s hk hs=>nd_one hk hs) rfl rfl ?_|refine Fin.le (.inl rfl) rfl (VLe.refl _) rfl|refine y3 ?_|refine y7 ?_ ?_|refine y4 ?_|(refine y9 ?_ ?_<;>intro h)|exact y5|fail)
    all_goals try omega
   |x::y::l,_=>
    repeat'(first|exact y0|refine y1 ?_|refine y2 ?_ ?_|(refine y8 ?_ ?_<;>intro h<;>try exact y6)|refine Ex.fz 8 (fun k=>ndC ((x::y::l).getD k dN)) 4 rfl rfl rfl rfl (fun _ _=>rfl) (fun k j s hk hs=>nd_cell hk hs) rfl rfl ?_|refine Fin.le (.inl rfl) rfl (VLe.refl _) rfl|refine y3 ?_|refine y7 ?_ ?_|refine y4 ?_|(refine y9 ?_ ?_<;>intro h)|exact y5|fail)
    all_goals try omega
set_option maxRecDepth 100000
set_option maxHeartbeats 1000000
def tree (op n:Int) (s:By) (K:List (List Nd)):List Nd:=⟨op,n,s,K.length⟩::K.flatten
structure OKr (B:Nat) (r:List Nd):Prop where
 ne:r≠[]
 len:r.length≤B
 wf:∀ x∈r,x.str.length≤1000∧0≤x.int
theorem OKr.le {B C:Nat} {r:List Nd} (h:OKr B r) (hbc:B≤C):OKr C r:=⟨h.ne,Nat.le_trans h.len hbc,h.wf⟩
theorem flat_len_le {B:Nat}:∀ {K:List (List Nd)},(∀ r∈K,OKr B r)→K.flatten.length≤K.length*B
 |[],_=>by simp
 |r::K,h=>by
  have h1:=(h r (List.mem_cons_self ..)).len
  have h2:=flat_len_le (K:=K) fun q hq=>h q (List.mem_cons_of_mem _ hq)
  simp only[List.flatten_cons,List.length_append,List.length_cons];rw[Nat.add_mul,Nat.one_mul];omega
theorem OKr.tree {B C:Nat} {op n:Int} {s:By} {K:List (List Nd)} (hK:∀ r∈K,OKr B r) (hn:0≤n) (hs:s.length≤1000) (hC:1+K.length*B≤C):OKr C (tree op n s K):=by
 refine⟨by simp[Go.Proofs.YtphdhedhhlfepaaGreatDoor.tree],?_,fun x hx=>?_⟩
 ·have:=flat_len_le hK
  simp only[Go.Proofs.YtphdhedhhlfepaaGreatDoor.tree,List.length_cons];omega
 ·rcases List.mem_cons.1 hx with rfl|hx
  ·exact⟨hs,hn⟩
  ·obtain⟨r,hr,hxr⟩:=List.mem_flatten.1 hx
   exact (hK r hr).wf x hxr
theorem node_t (op n:Int) (s:By) (K:List (List Nd)) {B:Nat} (hK:∀ r∈K,OKr B r) (hB:K.length*B≤1000000000000) (hk:K.length≤4096):
 FC Tryz.prog 46 [nI op,.s (.int .u64 n),sV s,.s (kidF K)] 0 [] (nodes (tree op n s K)) 0 []:=
 node_f op n s K (fun r hr=>(hK r hr).ne) (Nat.le_trans (flat_len_le hK) hB) hk
theorem leaf_t (op n:Int) (s:By):FC Tryz.prog 46 [nI op,.s (.int .u64 n),sV s,.s (kidF [])] 0 [] (nodes (tree op n s [])) 0 []:=
 node_t op n s [] (B:=0) (fun r hr=>by cases hr) (by simp) (by simp)
theorem OKr.leaf {op n:Int} {s:By} (hn:0≤n) (hs:s.length≤1000):OKr 1 (Go.Proofs.YtphdhedhhlfepaaGreatDoor.tree op n s []):=
 OKr.tree (B:=0) (fun r hr=>by cases hr) hn hs (by simp)
theorem int_c (n:Int):FC Tryz.prog 32 [.s (.int .u64 n)] 0 [] (nodes (tree 1 n [] [])) 0 []:=by
 have h:=leaf_t 1 n [];refine FC.walk (by kernel_rfl) Tryz.func32 rfl rfl ?_
 repeat'(first|exact y0|refine y1 ?_|refine y2 ?_ ?_|(refine y8 ?_ ?_<;>intro h<;>try exact y6)|(refine wC ?_;first|(refine wF 46 ?_;refine CallG.we h rfl ⟨VLe.refl _,VLe.refl _,VLe.refl _,VLe.s SLe.nil,trivial⟩ rfl rfl rfl ?_))|refine Fin.le (.inl rfl) rfl (VLe.refl _) rfl|refine y3 ?_|refine y7 ?_ ?_|refine y4 ?_|(refine y9 ?_ ?_<;>intro h)|exact y5|fail)
theorem nameOf_c (s:By):FC Tryz.prog 19 [sV s] 0 [] (nodes (tree 3 0 s [])) 0 []:=by
 have h:=leaf_t 3 0 s;refine FC.walk (by kernel_rfl) Tryz.func19 rfl rfl ?_
 repeat'(first|exact y0|refine y1 ?_|refine y2 ?_ ?_|(refine y8 ?_ ?_<;>intro h<;>try exact y6)|(refine wC ?_;first|(refine wF 46 ?_;refine CallG.we h rfl ⟨VLe.refl _,VLe.refl _,VLe.refl _,VLe.s SLe.nil,trivial⟩ rfl rfl rfl ?_))|refine Fin.le (.inl rfl) rfl (VLe.refl _) rfl|refine y3 ?_|refine y7 ?_ ?_|refine y4 ?_|(refine y9 ?_ ?_<;>intro h)|exact y5|fail)
theorem node_n (op:Int) (K:List (List Nd)) {B:Nat} (hK:∀ r∈K,OKr B r) (hB:K.length*B≤1000000000000) (hk:K.length≤4096):
 FC Tryz.prog 18 [nI op,.s (kidF K)] 0 [] (nodes (tree op 0 [] K)) 0 []:=by
 have h:=node_t op 0 [] K hK hB hk;generalize tree op 0 [] K=T at*;unfold kidF at*;refine FC.walk (by kernel_rfl) Tryz.func18 rfl rfl ?_
 repeat'(first|exact y0|refine y1 ?_|refine y2 ?_ ?_|(refine y8 ?_ ?_<;>intro h<;>try exact y6)|(refine wC ?_;first|refine wF 46 (pu h ?_))|refine Fin.le (.inl rfl) rfl (VLe.refl _) rfl|refine y3 ?_|refine y7 ?_ ?_|refine y4 ?_|(refine y9 ?_ ?_<;>intro h)|exact y5|fail)
set_option maxRecDepth 100000
set_option maxHeartbeats 1000000
theorem kid_cell {K:List (List Nd)} {k j:Nat} {x:S} (hk:k<K.length) (hx:[nS (K.getD k [])][j]? =some x):(K.map fun r=>nS r)[k*1+j]? =some x∧pureS x=true:=by
 cases j with
 |succ j=>simp at hx
 |zero=>
  simp only[List.getElem?_cons_zero,Option.some.injEq] at hx;subst hx;rw[Nat.mul_one,Nat.add_zero,List.getElem?_map,List.getElem?_eq_getElem hk,List.getD_eq_getElem?_getD,List.getElem?_eq_getElem hk];exact⟨rfl,rfl⟩
theorem int_e (n:Int) (h:0≤n):∃ r,OKr 1 r∧FC Tryz.prog 32 [.s (.int .u64 n)] 0 [] (nodes r) 0 []:=⟨_,OKr.leaf h (by simp),int_c n⟩
theorem name_e (s:By) (h:s.length≤1000):∃ r,OKr 1 r∧FC Tryz.prog 19 [sV s] 0 [] (nodes r) 0 []:=⟨_,OKr.leaf (by decide) h,nameOf_c s⟩
theorem node_e (op:Int) (K:List (List Nd)) {B:Nat} (C:Nat) (hK:∀ r∈K,OKr B r) (hB:K.length*B≤1000000000000) (hk:K.length≤4096) (hC:1+K.length*B≤C):
 ∃ r,OKr C r∧FC Tryz.prog 18 [nI op,.s (kidF K)] 0 [] (nodes r) 0 []:=⟨_,OKr.tree hK (by decide) (by simp) hC,node_n op K hK hB hk⟩
theorem region_c (l:List Int) (hl:l.length≤20000000000000) (i:Nat) (hi:i≤l.length) (s:By) (hs:s.length≤1000):
 ∃ (r:List Nd) (i':Nat),OKr 5 r∧i'≤l.length∧FC Tryz.prog 30 [cP,sV s] 1 (chL l i) (nodes r) 1 (chL l i'):=by
 obtain⟨k,i1,hk,hi1,c1⟩:=next_c l hl 3 (by decide) (by decide) i hi;obtain⟨m,i2,hm2,hi2,c2⟩:=next_c l hl 4 (by decide) (by decide) i1 hi1;obtain⟨q,i3,hq,hi3,c3⟩:=next_c l hl 32 (by decide) (by decide) i2 hi2
 obtain⟨sp,hsp0,hsp⟩:∃ sp:Int,0≤sp∧sp=(if k=0 then 0 else if k=1 then 1 else 3):=⟨_,by split<;>(try split)<;>decide,rfl⟩
 obtain⟨r1,o1,d1⟩:=name_e s hs;obtain⟨r2,o2,d2⟩:=int_e sp hsp0;obtain⟨r3,o3,d3⟩:=int_e (8*m) (by omega);obtain⟨r4,o4,d4⟩:=int_e (16+q) (by omega);obtain⟨r,o,dn⟩:=node_e 15 [r1,r2,r3,r4] (B:=1) 5 (by simp[o1,o2,o3,o4]) (by simp) (by simp) (by simp);unfold kidF at dn;refine⟨r,i3,o,hi3,?_⟩
 rcases (by omega:k=0∨k=1∨k=2) with rfl|rfl|rfl
 all_goals
  subst hsp;refine FC.walk (by kernel_rfl) Tryz.func30 rfl rfl ?_
  repeat'(first|exact y0|refine y1 ?_|refine y2 ?_ ?_|(refine y8 ?_ ?_<;>intro h<;>try exact y6)|(refine wC ?_;first|refine wF 27 (cm c1 ?_)|refine wF 27 (cm c2 ?_)|refine wF 27 (cm c3 ?_)|refine wF 19 (pu d1 ?_)|refine wF 32 (pu d2 ?_)|refine wF 32 (pu d3 ?_)|refine wF 32 (pu d4 ?_)|(refine wF 18 ?_;refine CallG.pz 25 (fun k=>[nS ([r1,r2,r3,r4].getD k [])]) 1 dn rfl rfl rfl rfl (fun _ _=>rfl) (fun k j x hk hx=>kid_cell (K:=[r1,r2,r3,r4]) hk hx) rfl ⟨VLe.refl _,VLe.refl _,trivial⟩ rfl rfl rfl ?_))|refine y3 ?_|refine y7 ?_ ?_|refine y4 ?_|(refine y9 ?_ ?_<;>intro h)|exact y5|fail)
  all_goals first
   |exact⟨.inl rfl,_,[],VLe.refl _,EndOK.by rfl ⟨rfl,trivial⟩ rfl rfl rfl rfl⟩
   |omega
   |exact u64_in (by omega) (by omega)
   |exact i64_in (by omega) (by omega)
set_option maxRecDepth 100000
set_option maxHeartbeats 1000000
abbrev kidB (g:Nat) (K:List (List Nd)):Option Bl:=opB 22 (g+1) 1 (K.map fun r=>nS r)
inductive BufT (l:List Int):Nat→Nat→List (List Nd)→Nat→Prop
 |nil (i:Nat):BufT l 0 i [] i
 |cons {n i k i1 i':Nat} {r:List Nd} {K:List (List Nd)} (hk:k<256) (hi1:i1≤l.length) (c:FC Tryz.prog 27 [cP,nI (256:Nat)] 1 (chL l i) (nI k) 1 (chL l i1))
  (o:OKr 1 r) (d:FC Tryz.prog 32 [.s (.int .u64 k)] 0 [] (nodes r) 0 []) (t:BufT l n i1 K i'):BufT l (n+1) i (r::K) i'
theorem buf_len {l:List Int} {n i i':Nat} {K:List (List Nd)} (h:BufT l n i K i'):K.length=n:=by
 induction h with
 |nil i=>rfl
 |cons _ _ _ _ _ _ ih=>simp[ih]
theorem buf_t (l:List Int) (hl:l.length≤20000000000000):∀ (n i:Nat),i≤l.length→∃ K i',BufT l n i K i'∧i'≤l.length∧K.length=n∧∀ r∈K,OKr 1 r
 |0,i,hi=>⟨[],i,.nil i,hi,rfl,fun r hr=>by cases hr⟩
 |n+1,i,hi=>by
  obtain⟨k,i1,hk,hi1,c⟩:=next_c l hl 256 (by decide) (by decide) i hi;obtain⟨r,o,d⟩:=int_e k (by omega);obtain⟨K,i',h1,h2,h3,h4⟩:=buf_t l hl n i1 hi1;refine⟨r::K,i',.cons hk hi1 c o d h1,h2,by simp[h3],fun q hq=>?_⟩
  rcases List.mem_cons.1 hq with rfl|hq
  ·exact o
  ·exact h4 q hq
theorem data_buf (l:List Int) (hl:l.length≤20000000000000) (dep:Int) (i i1:Nat) (hi1:i1≤l.length) (c1:FC Tryz.prog 27 [cP,nI (5:Nat)] 1 (chL l i) (nI (2:Nat)) 1 (chL l i1)):
 ∃ (r:List Nd) (i':Nat),OKr 10 r∧i'≤l.length∧FC Tryz.prog 33 [cP,nI dep] 1 (chL l i) (nodes r) 1 (chL l i'):=by
 obtain⟨m,i2,hm2,hi2,c2⟩:=next_c l hl 4 (by decide) (by decide) i1 hi1;obtain⟨K,i3,hB,hi3,hKl,hK⟩:=buf_t l hl m i2 hi2;obtain⟨q,i4,hq,hi4,c4⟩:=next_c l hl 3 (by decide) (by decide) i3 hi3;obtain⟨r1,o1,d1⟩:=int_e ((K.length:Int)+q) (by omega);obtain⟨r2,o2,d2⟩:=node_e 4 K (B:=1) 4 hK (by omega) (by omega) (by omega);obtain⟨r,o,dn⟩:=node_e 50 [r1,r2] (B:=4) 10 (by simp[o1.le,o2]) (by simp) (by simp) (by simp);unfold kidF at dn d2;refine⟨r,i4,o,hi4,?_⟩
 have hsz:(Tryz.prog.types[22]).size=1:=by kernel_rfl
 have hby:(Tryz.prog.types[22]).bytes=24:=by kernel_rfl
 refine FC.walk (by kernel_rfl) Tryz.func33 rfl rfl ?_
 repeat'(first|exact y0|refine y1 ?_|refine y2 ?_ ?_|(refine y8 ?_ ?_<;>intro h<;>try exact y6)|(refine wC ?_;first|refine wF 27 (cm c1 ?_)|refine wF 27 (cm c2 ?_))|refine y3 ?_|refine y7 ?_ ?_|refine y4 ?_|(refine y9 ?_ ?_<;>intro h)|exact y5|fail)
 refine Ex.set 5 (.s (.row 1 2 0)) (VLe.s SLe.nilrow) rfl (Ex.upN (n':=3) (by omega) ?_)
 refine Ex.inv (σ:=Nat×Nat×List (List Nd)) (fun s=>[(5,.s (.row 1 2 s.2.2.length)),(6,nI s.1)]) (fun s=>[(0,some {cells:=[chF l,.int .i64 (s.2.1:Int)],ty:=96}),(1,kidB 1 s.2.2)])
  (fun s=>∃ R,BufT l s.1 s.2.1 R i3∧s.2.2++R=K) (fun s=>s.1) (m,i2,[]) rfl (fun _=>rfl) ⟨K,hB,rfl⟩ ⟨VLe.refl _,VLe.refl _,trivial⟩ ⟨rfl,trivial⟩ ?_
 rintro⟨n,j,D⟩ ⟨R,hR,hD⟩;simp only at hR hD ⊢
 cases hR with
 |nil=>
  rw[List.append_nil] at hD;subst hD
  cases D with
  |nil=>
   repeat'(first|exact y0|refine y1 ?_|refine y2 ?_ ?_|(refine y8 ?_ ?_<;>intro h<;>try exact y6)|(refine wC ?_;first|refine wF 27 (cm c4 ?_)|refine wF 32 (pu d1 ?_)|(refine wF 18 ?_;refine CallG.we d2 rfl ⟨VLe.refl _,VLe.s SLe.row0,trivial⟩ rfl rfl rfl ?_)|(refine wF 18 ?_;refine CallG.pz 43 (fun k=>[nS ([r1,r2].getD k [])]) 1 dn rfl rfl rfl rfl (fun _ _=>rfl) (fun kk jj zz hk hx=>kid_cell (K:=[r1,r2]) hk hx) rfl ⟨VLe.refl _,VLe.refl _,trivial⟩ rfl rfl rfl ?_))|exact u64_in (by omega) (by omega)|refine y3 ?_|refine y7 ?_ ?_|refine y4 ?_|(refine y9 ?_ ?_<;>intro h)|exact y5|fail)
   all_goals first
   |exact⟨.inl rfl,_,[],VLe.refl _,EndOK.by rfl ⟨rfl,trivial⟩ rfl rfl rfl rfl⟩
   |omega
   |exact u64_in (by omega) (by omega)
   |exact i64_in (by omega) (by omega)
   |exact u64_in (by simp;omega) (by simp;omega)
   |exact i64_in (by simp;omega) (by simp;omega)
  |cons x D=>
   repeat'(first|exact y0|refine y1 ?_|refine y2 ?_ ?_|(refine y8 ?_ ?_<;>intro h<;>try exact y6)|(refine wC ?_;first|refine wF 27 (cm c4 ?_)|refine wF 32 (pu d1 ?_)|(refine wF 18 ?_;refine CallG.pz 43 (fun k=>[nS ([r1,r2].getD k [])]) 1 dn rfl rfl rfl rfl (fun _ _=>rfl) (fun kk jj zz hk hx=>kid_cell (K:=[r1,r2]) hk hx) rfl ⟨VLe.refl _,VLe.refl _,trivial⟩ rfl rfl rfl ?_)|(refine wF 18 ?_;refine CallG.pz 41 (fun k=>[nS ((x::D).getD k [])]) 1 d2 rfl rfl rfl rfl (fun _ _=>rfl) (fun kk jj zz hk hx=>kid_cell (K:=(x::D)) hk hx) rfl ⟨VLe.refl _,VLe.refl _,trivial⟩ rfl rfl rfl ?_))|exact u64_in (by omega) (by omega)|refine y3 ?_|refine y7 ?_ ?_|refine y4 ?_|(refine y9 ?_ ?_<;>intro h)|exact y5|fail)
   all_goals first
   |exact⟨.inl rfl,_,[],VLe.refl _,EndOK.by rfl ⟨rfl,trivial⟩ rfl rfl rfl rfl⟩
   |omega
   |exact u64_in (by omega) (by omega)
   |exact i64_in (by omega) (by omega)
 | @cons n _ k j1 _ r' R' hk hj1 c oo d t=>
   have hRl:=buf_len t
   have hlen:D.length+n≤2:=by rw[←hKl,←hD] at hm2;simp at hm2;omega
   repeat'(first|exact y0|refine y1 ?_|refine y2 ?_ ?_|(refine y8 ?_ ?_<;>intro h<;>try exact y6)|(refine wC ?_;first|refine wF 27 (cm c ?_)|refine wF 32 (pu d ?_))|exact u64_in (by omega) (by omega)|refine RegX.apr (i:=1) (g:=2) (m:=D.length) (w:=1) (cs:=D.map fun r=>nS r) (foot:=[3]) (k:=1) (add:=[nS r']) rfl rfl (by simp) rfl rfl rfl rfl rfl rfl rfl hsz (by decide) rfl ⟨Nat.le_refl _,rfl⟩ (by decide) (by simp) rfl (by rw[hby];omega) (by omega) rfl ?_|refine y3 ?_|refine y7 ?_ ?_|refine y4 ?_|(refine y9 ?_ ?_<;>intro h)|exact y5|fail)
   all_goals try first
    |exact i64_in (by push_cast;omega) (by push_cast;omega)
    |omega
   refine LoopR.move (n,j1,D++[r']) ⟨R',t,by simpa using hD⟩ (by simp only;omega) [0,4,5] rfl ?_ ?_ ?_
   ·repeat' (first|exact VLe.refl _|exact VLe.any _|exact True.intro|exact VLe.of_eq (congrArg nI (by push_cast;omega))|(refine VLe.of_eq (congrArg V.s (?_:S.row 4 5 _=S.row 4 5 _));simp;done)|refine⟨?_,?_⟩)
   ·refine⟨rfl,MemP.op ?_ trivial⟩
    rw[List.map_append];rfl
   ·exact (by unfold kidB;generalize List.map _ _=cg;cases cg<;>rfl)
end Go.Proofs.YtphdhedhhlfepaaGreatDoor
