import Derived.Test.YtphdhedhhlfepaaGreatDoorCzC24
set_option linter.unusedSimpArgs false
set_option linter.unusedVariables false
namespace Go.Proofs.YtphdhedhhlfepaaGreatDoor
open Go Ab
set_option maxRecDepth 100000
set_option maxHeartbeats 1000000
theorem resF_cases (p:List Nd) (F:List (By×Nat)) (op:Int):∀ cs:List Pth,resF p F op cs= -1∨∃ i:Nat,resF p F op cs=(i:Int)∧(p.getD i dN).op=op∧∃ k,(k,i)∈F
 |[]=> .inl rfl
 |c::t=>by
  simp only[resF];split
  ·rename_i i hi
   split
   ·exact .inr ⟨i,rfl,‹_›,_,lkF_mem hi⟩
   ·exact .inl rfl
  ·exact resF_cases p F op t
theorem ldAt_pts {T:List Pth} {i:Nat} (h:i<T.length):ldAt true 3 (scB T) (i*3)=some (ptV (T.getD i z0)):=by
 unfold ldAt
 have hle:i*3+3≤(T.flatMap ptC).length:=by rw[flat_len];omega
 have e:((T.flatMap ptC).drop (i*3)).take 3=ptC (T.getD i z0):=by
  apply List.ext_getElem?;intro j;rw[List.getElem?_take,List.getElem?_drop];split
  ·rename_i hj
   cases hx:(ptC (T.getD i z0))[j]? with
   |none=>exfalso;rw[List.getElem?_eq_none_iff] at hx;simp[ptC] at hx;omega
   |some x=>exact (pts_get h hx).1
  ·rename_i hj
   rw[List.getElem?_eq_none];simp[ptC];omega
 have hb:Nat.ble (i*3+3) (scB T).cells.length=true:=Nat.ble_eq_true_of_le hle;show (match Nat.ble (i*3+3) (scB T).cells.length with|true=>some (V.agg (((scB T).cells.drop (i*3)).take 3))|false=>none)=_;rw[hb];show some (V.agg (((T.flatMap ptC).drop (i*3)).take 3))=_;rw[e]
theorem viewR {φ:Ph} {w:World} {b:Nat×Nat} {p:List Nd} {nD g nG:Nat} (h:BlAt φ w b (anB p 3 nD g nG)):
 BlAt φ w b {cells:=[.frz (fun k=>ndC (p.getD k dN)) 4 p.length,.unk,.unk,.map (some 5)],ty:=67,more:=true,ro:=true}:=
 BlAt.cells (bl:=viewB 4 (anB p 3 nD g nG)) ⟨SLe.refl _,fun _ _ h=>h.cell rfl,fun _ _ h=>h.cell rfl,SLe.refl _,trivial⟩ (BlAt.view 4 rfl h)
def unitsG (p:List Nd) (len w:Int):Fo→Nat→Int→List (Nat×Nat)→List (Nat×Nat)
 | .nil,_,_,G=>G
 | .cons x k n,i,bit,G=>
   if oorB p i then G
   else if x.op=19 then unitsG p len w n (i+1+k.size) (bit+numN p (i+1)) G
   else unitsG p len w n (i+1+k.size) (bit+numN p (i+2)) (if len<((bit+numN p (i+2)-1).tdiv (8*w)+1)*w then G++[(i,7)] else G)
theorem unitsG_len (p:List Nd) (len w:Int):∀ (t:Fo) (i:Nat) (bit:Int) (G:List (Nat×Nat)),(unitsG p len w t i bit G).length≤G.length+t.size
 | .nil,_,_,_=>Nat.le_refl _
 | .cons x k n,i,bit,G=>by
   simp only[unitsG,Fo.size];split
   ·omega
   ·split
    ·have:=unitsG_len p len w n (i+1+k.size) (bit+numN p (i+1)) G;omega
    ·have:=unitsG_len p len w n (i+1+k.size) (bit+numN p (i+2)) (if len<((bit+numN p (i+2)-1).tdiv (8*w)+1)*w then G++[(i,7)] else G)
     have h2:(if len<((bit+numN p (i+2)-1).tdiv (8*w)+1)*w then G++[(i,7)] else G).length≤G.length+1:=by split<;>simp
     omega
def fieldG (p:List Nd) (F:List (By×Nat)) (sc:Pth) (bl:Fo) (i:Nat) (G:List (Nat×Nat)):List (Nat×Nat):=
 if resF p F 15 (candP sc (parseP (p.getD (i+1) dN).str).1)<0 then G++[(i,6)]
 else if oorB p (resF p F 15 (candP sc (parseP (p.getD (i+1) dN).str).1)).toNat||oorB p i then G
 else unitsG p (numN p ((resF p F 15 (candP sc (parseP (p.getD (i+1) dN).str).1)).toNat+4)) (numN p (i+2)) bl (i+5) 0 G
abbrev ndL (p:List Nd) (nD:Nat) (T:List Pth) (F:List (By×Nat)) (G:List (Nat×Nat)):Hp:=[(0,some (anB p 3 nD 6 G.length)),(1,some (scB T)),(5,some (mapB F)),(6,dgB 6 G)]
abbrev ndL' (p:List Nd) (nD:Nat) (T:List Pth) (F:List (By×Nat)) (G:List (Nat×Nat)):Hp:=[(0,some (anB p 3 nD 8 G.length)),(1,some (scB T)),(5,some (mapB F)),(6,none),(8,dgB 8 G)]
theorem tdiv_bd {a b:Int} (h:0≤a) (hb:0<b):0≤a.tdiv b∧a.tdiv b≤a:=by
 rw[Int.tdiv_eq_ediv_of_nonneg h];exact⟨Int.ediv_nonneg h (Int.le_of_lt hb),Int.ediv_le_self _ h⟩
theorem mul_bd {q w:Int} (h:w=1∨w=2∨w=4∨w=8) (hq:0≤q):0≤q*w∧q*w≤8*q:=by
 rcases h with rfl|rfl|rfl|rfl<;>omega
theorem field_c (p:List Nd) (hp:p.length≤2048) (hw:wfN p) (hI:wfI p) (hn:∀ j,j<p.length→NumAt p j) (nD:Nat) (T:List Pth) (hT:T.length=p.length) (hTl:∀ q∈T,q.segs.length≤1000000) (F:List (By×Nat)) (hF:∀ x∈F,x.2<p.length)
 (i:Nat) (hop:(p.getD i dN).op=16) (b:Nd) (bl:Fo) (G:List (Nat×Nat)) (ha:(Fo.cons b bl .nil).At p (i+4)) (hv:(Fo.cons b bl .nil).V [(true,70)]) (hG:G.length+4*2048≤1000000000):
 FC Tryz.prog 60 [.s (.ptr (some (0,0))),nI i] 8 (ndL p nD T F G) .any 10 (ndL' p nD T F (fieldG p F (T.getD i z0) bl i G)):=by
 have hi4:=At.lt ha;have hsz:=At.size_le (Nat.le_of_lt hi4) ha;simp only[Fo.size] at hsz;have hpa:=pathAt_c p hw (i+1) (by omega);have hTg:(T.getD i z0).segs.length≤1000000:=hTl _ (by rw[List.getD_eq_getElem?_getD,List.getElem?_eq_getElem (by omega)];exact List.getElem_mem _);have hrs:=resolve_c p hp F hF (T.getD i z0) (parseP (p.getD (i+1) dN).str).1 hTg 15;have hri:=oor_c p hp hI i (hn i (by omega))
 have hse:(Tryz.prog.types[92]).size=3:=by kernel_rfl
 have hcat:plus 0 (times i (Tryz.prog.types[92]).size)=i*3:=by rw[hse,plus_eq,times_eq,Nat.zero_add]
 unfold fieldG;have hcase:=resF_cases p F 15 (candP (T.getD i z0) (parseP (p.getD (i+1) dN).str).1);generalize resF p F 15 (candP (T.getD i z0) (parseP (p.getD (i+1) dN).str).1)=reg at*;refine FC.walk (by kernel_rfl) Tryz.func60 rfl rfl ?_
 rcases hcase with rfl|⟨rg,rfl,hrop,key,hmem⟩
 ·rw[if_pos (by decide)]
  repeat'(first|exact y0|refine y1 ?_|refine y2 ?_ ?_|(refine y8 ?_ ?_<;>intro h<;>try exact y6)|(refine wC ?_;first|(refine wF 62 ?_;refine CallG.mv [0] 0 hpa rfl rfl ⟨VLe.refl _,VLe.of_eq (congrArg nI (by push_cast;rfl)),trivial⟩ rfl rfl (fun φ w b=>BlAt.view 1 rfl) rfl ⟨⟨rfl,_,rfl,rfl,fun h=>h⟩,trivial⟩ rfl rfl rfl rfl ?_)|(refine wF 61 ?_;refine CallG.mv [0,5] 0 hrs rfl rfl ⟨VLe.refl _,VLe.refl _,VLe.refl _,VLe.refl _,trivial⟩ rfl rfl (fun φ w b=>viewR) rfl ⟨⟨rfl,_,rfl,rfl,fun h=>h⟩,⟨rfl,_,rfl,rfl,fun _=>rfl⟩,trivial⟩ rfl rfl rfl rfl ?_)|(refine wF 39 ?_;refine CallG.mo [0,1,2,3,4,5,6,7] (report_c p nD G i 6 (by omega)) rfl (okH_op rfl rfl rfl) rfl rfl rfl ⟨VLe.refl _,VLe.refl _,VLe.refl _,trivial⟩ ⟨⟨rfl,_,rfl,rfl,fun h=>h⟩,FitP.op rfl rfl trivial⟩ rfl rfl (wr:=[(0,some (anB p 3 nD 8 (G.length+1))),(6,none),(8,dgB 8 (G++[(i,6)]))]) (by show [_,_,_]=_;rw[renO_op];rfl) ?_))|refine RegX.ldS [.val (ptV (T.getD i z0))] rfl rfl ?_ rfl ?_|refine y3 ?_|refine y7 ?_ ?_|refine y4 ?_|(refine y9 ?_ ?_<;>intro h)|exact y5|fail)
  ·rw[hcat,hse];exact ldAt_pts (by omega)
  ·unfold ndL'
   rw[List.length_append,List.length_singleton];refine⟨.inl rfl,.tup [],[8,9],VLe.any _,EndOK.by rfl ?_ rfl ?_ rfl rfl⟩
   ·exact⟨rfl,rfl,rfl,MemP.op rfl trivial⟩
   ·(unfold dgB;generalize List.flatMap dgC _=cg;cases cg<;>rfl)
 ·have hrl:rg<p.length:=hF _ hmem
  have hrn:=hn rg hrl;have hr4:=hrn.2.1 (.inr (.inl hrop));have hrr:=oor_c p hp hI rg hrn;rw[if_neg (by omega),Int.toNat_natCast];cases hb1:oorB p rg
  ·cases hb2:oorB p i
   ·rw[hb1] at hrr
    rw[hb2] at hri;simp only[Bool.or_self,Bool.false_eq_true,if_false]
    have hw4:numN p (i+2)=1∨numN p (i+2)=2∨numN p (i+2)=4∨numN p (i+2)=8:=by
     unfold oorB at hb2;simp only[hop] at hb2;simp only[show ¬((16:Int)=12) by decide,show ¬((16:Int)=14) by decide,show ¬((16:Int)=20) by decide,show ¬((16:Int)=15) by decide,if_false,if_true] at hb2;unfold acsB at hb2;split at hb2
     ·assumption
     ·cases hb2
    have hcs:=starts_len bl (i+5)
    have hkid:(p.getD (i+4) dN).kids=((bl.starts (i+5)).length:Nat):=by rw[At.get ha,hcs];exact ha.2.1
    have hcc:=Fo.cnt_le bl;have hch:=children_c p hp (i+4) (i+4+1+bl.size) hi4 (bl.starts (i+5)) hkid (At.chain ha.2.2.1) (by omega);have hbA:=ha.2.2.1;have hbV:=hv.2.1;generalize hcsd:bl.starts (i+5)=cs at hcs hkid hch
    repeat'(first|refine Ex.canonB 0 [0,1,2,3,4,5,6,7,6,7] 113 [(0,.s (.ptr (some (0,0)))),(5,nU (numN p (rg+4))),(6,nU (numN p (i+2))),(7,nU 0),(58,.s (intsF cs)),(59,nI cs.length),(60,nI 0)] [(0,some (anB p 3 nD 8 (G).length)),(1,some (scB T)),(5,some (mapB F)),(8,dgB 8 (G))] rfl rfl ?_ ?_ ?_ ?_|exact y0|refine y1 ?_|refine y2 ?_ ?_|(refine y8 ?_ ?_<;>intro h<;>try exact y6)|(refine wC ?_;first|(refine wF 62 ?_;refine CallG.mv [0] 0 hpa rfl rfl ⟨VLe.refl _,VLe.of_eq (congrArg nI (by push_cast;rfl)),trivial⟩ rfl rfl (fun φ w b=>BlAt.view 1 rfl) rfl ⟨⟨rfl,_,rfl,rfl,fun h=>h⟩,trivial⟩ rfl rfl rfl rfl ?_)|(refine wF 61 ?_;refine CallG.mv [0,5] 0 hrs rfl rfl ⟨VLe.refl _,VLe.refl _,VLe.refl _,VLe.refl _,trivial⟩ rfl rfl (fun φ w b=>viewR) rfl ⟨⟨rfl,_,rfl,rfl,fun h=>h⟩,⟨rfl,_,rfl,rfl,fun _=>rfl⟩,trivial⟩ rfl rfl rfl rfl ?_)|(refine wF 38 ?_;refine CallG.mv [0] 0 hrr rfl rfl ⟨VLe.refl _,VLe.refl _,trivial⟩ rfl rfl (fun φ w b=>BlAt.view 1 rfl) rfl ⟨⟨rfl,_,rfl,rfl,fun h=>h⟩,trivial⟩ rfl rfl rfl rfl ?_)|(refine wF 38 ?_;refine CallG.mv [0] 0 hri rfl rfl ⟨VLe.refl _,VLe.refl _,trivial⟩ rfl rfl (fun φ w b=>BlAt.view 1 rfl) rfl ⟨⟨rfl,_,rfl,rfl,fun h=>h⟩,trivial⟩ rfl rfl rfl rfl ?_)|(refine wF 102 ?_;refine CallG.mv [0] 0 hch rfl rfl ⟨VLe.refl _,VLe.of_eq (congrArg nI (by push_cast;rfl)),trivial⟩ rfl rfl (fun φ w b=>BlAt.view 1 rfl) rfl ⟨⟨rfl,_,rfl,rfl,fun h=>h⟩,trivial⟩ rfl rfl rfl rfl ?_))|refine RegX.ldS [.val (ptV (T.getD i z0))] rfl rfl ?_ rfl ?_|refine y3 ?_|refine y7 ?_ ?_|refine y4 ?_|(refine y9 ?_ ?_<;>intro h)|exact y5|fail)
    all_goals try first
     |omega
     |(rw[hcat,hse];exact ldAt_pts (by omega))
    rotate_left 1
    ·exact⟨VLe.refl _,VLe.refl _,VLe.refl _,VLe.refl _,VLe.refl _,VLe.refl _,VLe.refl _,trivial⟩
    ·exact⟨rfl,rfl,rfl,MemP.op rfl trivial⟩
    ·(unfold dgB;generalize List.flatMap dgC _=cg;cases cg<;>rfl)
    generalize hU:unitsG p (numN p (rg+4)) (numN p (i+2)) bl (i+5) 0 G=U at*;generalize numN p (i+2)=w at*;generalize numN p (rg+4)=len at*
    refine Ex.inv (σ:=Fo×Nat×Nat×Int×List (Nat×Nat)) (fun q=>[(7,nU q.2.2.2.1),(60,nI q.2.2.1)]) (fun q=>[(0,some (anB p 3 nD 8 (q.2.2.2.2).length)),(1,some (scB T)),(5,some (mapB F)),(8,dgB 8 (q.2.2.2.2))])
     (fun q=>q.1.At p q.2.1∧q.1.V (List.replicate q.1.cnt (false,70))∧(i+5≤q.2.1∧q.2.1+q.1.size=i+5+bl.size)∧q.2.2.1+q.1.cnt=cs.length∧cs.drop q.2.2.1=q.1.starts q.2.1∧(0≤q.2.2.2.1∧q.2.2.2.1≤q.2.2.1*8388608)∧q.2.2.2.2.length+q.1.size≤1000000000∧unitsG p len w q.1 q.2.1 q.2.2.2.1 q.2.2.2.2=U) (fun q=>q.1.size) (bl,i+5,0,0,G) rfl (fun _=>rfl) ?_ ?_ ?_ ?_
    ·exact⟨hbA,hbV,⟨Nat.le_refl _,rfl⟩,by simp only;omega,by simp only[List.drop_zero,hcsd],⟨Int.le_refl _,by simp⟩,by simp only;omega,hU⟩
    ·exact⟨VLe.refl _,VLe.refl _,trivial⟩
    ·exact⟨rfl,rfl,rfl,SubP.op rfl trivial⟩
    ·rintro⟨t,cur,idx,bit,Gt⟩ ⟨t1,t2,⟨t0,t3⟩,t4,t5,⟨b1,b2⟩,t6,t7⟩
     simp only at t0 t1 t2 t3 t4 t5 b1 b2 t6 t7 ⊢
     cases t with
     |nil=>
      simp only[Fo.cnt,Nat.add_zero] at t4;simp only[unitsG] at t7;rw[←t7]
      repeat'(first|exact y0|refine y1 ?_|refine y2 ?_ ?_|(refine y8 ?_ ?_<;>intro h<;>try exact y6)|refine y3 ?_|refine y7 ?_ ?_|refine y4 ?_|(refine y9 ?_ ?_<;>intro h)|exact y5|fail)
      all_goals try omega
      refine⟨.inr rfl,.tup [],[8,9],VLe.any _,EndOK.by rfl ?_ rfl ?_ rfl rfl⟩
      ·exact⟨rfl,rfl,rfl,MemP.op rfl trivial⟩
      ·(unfold ndL' dgB;generalize List.flatMap dgC _=cg;cases cg<;>rfl)
     |cons x ks n=>
      simp only[Fo.size] at t3 t6;simp only[Fo.cnt] at t4
      have hcur:cs.getD idx 0=cur:=by
       have:(cs.drop idx)[0]? =some cur:=by rw[t5];rfl
       rw[List.getElem?_drop,Nat.add_zero] at this;rw[List.getD_eq_getElem?_getD,this];rfl
      have hnext:cs.drop (idx+1)=n.starts (cur+1+ks.size):=by
       rw[←List.drop_drop,t5];rfl
      have hcl:=At.lt t1;have hcx:=At.get t1;have hcn:=hn cur hcl;have hco:=oor_c p hp hI cur hcn
      have hxop:x.op=18∨x.op=19:=by
       have h:=t2.1.1;unfold accB at h;simp[isElemB] at h;exact h
      simp only[unitsG] at t7
      have h8:0≤8*w∧8*w<18446744073709551616∧8*w≠0:=by omega
      repeat'(first|exact y0|refine y1 ?_|refine y2 ?_ ?_|(refine y8 ?_ ?_<;>intro h<;>try exact y6)|refine y3 ?_|refine y7 ?_ ?_|refine y4 ?_|(refine y9 ?_ ?_<;>intro h)|exact y5|fail)
      all_goals try omega
      rw[hcur];cases hoc:oorB p cur
      ·rw[hoc] at hco t7
       simp only[Bool.false_eq_true,if_false] at t7
       rcases hxop with hx|hx
       ·have h18:(p.getD cur dN).op=18:=by rw[hcx];exact hx
        rw[if_neg (by omega)] at t7
        have hb:1≤numN p (cur+2)∧numN p (cur+2)≤256:=by
         have h0:0≤numN p (cur+2):=wfI_get hI (cur+2);unfold oorB at hoc
         repeat (first|rw[if_pos (by omega)] at hoc|rw[if_neg (by omega)] at hoc)
         simp only[Bool.or_eq_false_iff,decide_eq_false_iff_not] at hoc;omega
        have hn2:cur+2<p.length:=hcn.2.2.2.1 (.inr (.inl h18));have A1:=u64_in (z:=bit+numN p (cur+2)) (by omega) (by omega);have A2:=u64_in (z:=bit+numN p (cur+2)-1) (by omega) (by omega);have A3:=u64_in (z:=8*w) h8.1 h8.2.1;have hQ:=tdiv_bd (a:=bit+numN p (cur+2)-1) (b:=8*w) (by omega) (by omega);have hM:=mul_bd (q:=(bit+numN p (cur+2)-1).tdiv (8*w)+1) hw4 (by omega);have A4:=u64_in (z:=(bit+numN p (cur+2)-1).tdiv (8*w)) hQ.1 (by omega);have A5:=u64_in (z:=(bit+numN p (cur+2)-1).tdiv (8*w)+1) (by omega) (by omega);have A6:=u64_in (z:=((bit+numN p (cur+2)-1).tdiv (8*w)+1)*w) hM.1 (by omega);by_cases hlt:len<((bit+numN p (cur+2)-1).tdiv (8*w)+1)*w
        ·rw[if_pos hlt] at t7
         repeat'(first|exact y0|refine y1 ?_|refine y2 ?_ ?_|(refine y8 ?_ ?_<;>intro h<;>try(first|(exact absurd hlt (by assumption))|exact y6))|(refine wC ?_;first|(refine wF 38 ?_;refine CallG.mv [0] 0 hco rfl rfl ⟨VLe.refl _,VLe.refl _,trivial⟩ rfl rfl (fun φ w b=>BlAt.view 1 rfl) rfl ⟨⟨rfl,_,rfl,rfl,fun h=>h⟩,trivial⟩ rfl rfl rfl rfl ?_)|(refine wF 39 ?_;refine CallG.mo [0,1,2,3,4,5,8,9] (report_c p nD Gt cur 7 (by omega)) rfl (okH_op rfl rfl rfl) rfl rfl rfl ⟨VLe.refl _,VLe.refl _,VLe.refl _,trivial⟩ ⟨⟨rfl,_,rfl,rfl,fun h=>h⟩,FitP.op rfl rfl trivial⟩ rfl rfl (wr:=[(0,some (anB p 3 nD 10 (Gt.length+1))),(8,none),(10,dgB 10 (Gt++[(cur,7)]))]) (by show [_,_,_]=_;rw[renO_op];rfl) ?_))|refine y3 ?_|refine y7 ?_ ?_|refine y4 ?_|(refine y9 ?_ ?_<;>intro h)|exact y5|fail)
         all_goals try first
          |omega
          |exact hn2
          |exact A1
          |exact A2
          |exact A3
          |exact A4
          |exact A5
          |exact A6
          |exact h8.2.2
         refine LoopR.move (n,cur+1+ks.size,idx+1,bit+numN p (cur+2),Gt++[(cur,7)]) ⟨t1.2.2.2,t2.2.2,⟨by simp only;omega,by simp only;omega⟩,by simp only;omega,hnext,⟨by simp only;omega,by simp only;push_cast;omega⟩,by simp only[List.length_append,List.length_singleton];omega,t7⟩ (by simp only[Fo.size];omega) [0,1,2,3,4,5,6,7,10,11] rfl ?_ ?_ ?_
         ·repeat' (first|exact VLe.refl _|exact VLe.any _|exact True.intro|refine⟨?_,?_⟩)
         ·rw[List.length_append,List.length_singleton]
          exact⟨rfl,rfl,rfl,MemP.op rfl trivial⟩
         ·(unfold dgB;generalize List.flatMap dgC _=cg;cases cg<;>rfl)
        ·rw[if_neg hlt] at t7
         repeat'(first|exact y0|refine y1 ?_|refine y2 ?_ ?_|(refine y8 ?_ ?_<;>intro h<;>try(first|(exact absurd (by assumption) hlt)|exact y6))|(refine wC ?_;first|(refine wF 38 ?_;refine CallG.mv [0] 0 hco rfl rfl ⟨VLe.refl _,VLe.refl _,trivial⟩ rfl rfl (fun φ w b=>BlAt.view 1 rfl) rfl ⟨⟨rfl,_,rfl,rfl,fun h=>h⟩,trivial⟩ rfl rfl rfl rfl ?_))|refine y3 ?_|refine y7 ?_ ?_|refine y4 ?_|(refine y9 ?_ ?_<;>intro h)|exact y5|fail)
         all_goals try first
          |omega
          |exact hn2
          |exact A1
          |exact A2
          |exact A3
          |exact A4
          |exact A5
          |exact A6
          |exact h8.2.2
         refine LoopR.same (n,cur+1+ks.size,idx+1,bit+numN p (cur+2),Gt) ⟨t1.2.2.2,t2.2.2,⟨by simp only;omega,by simp only;omega⟩,by simp only;omega,hnext,⟨by simp only;omega,by simp only;push_cast;omega⟩,by simp only;omega,t7⟩ (by simp only[Fo.size];omega) rfl ⟨VLe.refl _,VLe.refl _,trivial⟩ ⟨rfl,rfl,rfl,SubP.op rfl trivial⟩ rfl ?_ (by decide)
         (unfold dgB;generalize List.flatMap dgC _=cg;cases cg<;>rfl)
       ·have h19:(p.getD cur dN).op=19:=by rw[hcx];exact hx
        rw[if_pos hx] at t7;have h0:0≤numN p (cur+1):=wfI_get hI (cur+1)
        have hb:numN p (cur+1)≤8388608:=by
         unfold oorB at hoc
         repeat (first|rw[if_pos (by omega)] at hoc|rw[if_neg (by omega)] at hoc)
         simp only[decide_eq_false_iff_not] at hoc;omega
        have hn1:cur+1<p.length:=hcn.2.2.2.2.1 (.inl h19);have A1:=u64_in (z:=bit+numN p (cur+1)) (by omega) (by omega)
        repeat'(first|exact y0|refine y1 ?_|refine y2 ?_ ?_|(refine y8 ?_ ?_<;>intro h<;>try exact y6)|(refine wC ?_;first|(refine wF 38 ?_;refine CallG.mv [0] 0 hco rfl rfl ⟨VLe.refl _,VLe.refl _,trivial⟩ rfl rfl (fun φ w b=>BlAt.view 1 rfl) rfl ⟨⟨rfl,_,rfl,rfl,fun h=>h⟩,trivial⟩ rfl rfl rfl rfl ?_))|refine y3 ?_|refine y7 ?_ ?_|refine y4 ?_|(refine y9 ?_ ?_<;>intro h)|exact y5|fail)
        all_goals try first
         |omega
         |exact hn1
         |exact A1
        refine LoopR.same (n,cur+1+ks.size,idx+1,bit+numN p (cur+1),Gt) ⟨t1.2.2.2,t2.2.2,⟨by simp only;omega,by simp only;omega⟩,by simp only;omega,hnext,⟨by simp only;omega,by simp only;push_cast;omega⟩,by simp only;omega,t7⟩ (by simp only[Fo.size];omega) rfl ⟨VLe.refl _,VLe.refl _,trivial⟩ ⟨rfl,rfl,rfl,SubP.op rfl trivial⟩ rfl ?_ (by decide)
        (unfold dgB;generalize List.flatMap dgC _=cg;cases cg<;>rfl)
      ·rw[hoc] at hco t7
       simp only[if_true] at t7;rw[←t7]
       repeat'(first|exact y0|refine y1 ?_|refine y2 ?_ ?_|(refine y8 ?_ ?_<;>intro h<;>try exact y6)|(refine wC ?_;first|(refine wF 38 ?_;refine CallG.mv [0] 0 hco rfl rfl ⟨VLe.refl _,VLe.refl _,trivial⟩ rfl rfl (fun φ w b=>BlAt.view 1 rfl) rfl ⟨⟨rfl,_,rfl,rfl,fun h=>h⟩,trivial⟩ rfl rfl rfl rfl ?_))|refine y3 ?_|refine y7 ?_ ?_|refine y4 ?_|(refine y9 ?_ ?_<;>intro h)|exact y5|fail)
       all_goals try omega
       refine⟨.inl rfl,.tup [],[8,9],VLe.any _,EndOK.by rfl ?_ rfl ?_ rfl rfl⟩
       ·exact⟨rfl,rfl,rfl,MemP.op rfl trivial⟩
       ·(unfold ndL' dgB;generalize List.flatMap dgC _=cg;cases cg<;>rfl)
   ·rw[hb1] at hrr
    rw[hb2] at hri;simp only[Bool.or_true,if_true]
    repeat'(first|exact y0|refine y1 ?_|refine y2 ?_ ?_|(refine y8 ?_ ?_<;>intro h<;>try exact y6)|(refine wC ?_;first|(refine wF 62 ?_;refine CallG.mv [0] 0 hpa rfl rfl ⟨VLe.refl _,VLe.of_eq (congrArg nI (by push_cast;rfl)),trivial⟩ rfl rfl (fun φ w b=>BlAt.view 1 rfl) rfl ⟨⟨rfl,_,rfl,rfl,fun h=>h⟩,trivial⟩ rfl rfl rfl rfl ?_)|(refine wF 61 ?_;refine CallG.mv [0,5] 0 hrs rfl rfl ⟨VLe.refl _,VLe.refl _,VLe.refl _,VLe.refl _,trivial⟩ rfl rfl (fun φ w b=>viewR) rfl ⟨⟨rfl,_,rfl,rfl,fun h=>h⟩,⟨rfl,_,rfl,rfl,fun _=>rfl⟩,trivial⟩ rfl rfl rfl rfl ?_)|(refine wF 38 ?_;refine CallG.mv [0] 0 hrr rfl rfl ⟨VLe.refl _,VLe.refl _,trivial⟩ rfl rfl (fun φ w b=>BlAt.view 1 rfl) rfl ⟨⟨rfl,_,rfl,rfl,fun h=>h⟩,trivial⟩ rfl rfl rfl rfl ?_)|(refine wF 38 ?_;refine CallG.mv [0] 0 hri rfl rfl ⟨VLe.refl _,VLe.refl _,trivial⟩ rfl rfl (fun φ w b=>BlAt.view 1 rfl) rfl ⟨⟨rfl,_,rfl,rfl,fun h=>h⟩,trivial⟩ rfl rfl rfl rfl ?_))|refine RegX.ldS [.val (ptV (T.getD i z0))] rfl rfl ?_ rfl ?_|refine y3 ?_|refine y7 ?_ ?_|refine y4 ?_|(refine y9 ?_ ?_<;>intro h)|exact y5|fail)
    all_goals try first
     |omega
     |(rw[hcat,hse];exact ldAt_pts (by omega))
    refine⟨.inl rfl,.tup [],[6,7],VLe.any _,EndOK.move rfl ?_ rfl ?_ rfl ?_ ?_⟩
    ·exact⟨rfl,rfl,rfl,MemP.op rfl trivial⟩
    ·(unfold ndL' dgB;generalize List.flatMap dgC _=cg;cases cg<;>rfl)
    ·(unfold ndL' dgB;generalize List.flatMap dgC _=cg;cases cg<;>rfl)
    ·(unfold ndL' dgB;generalize List.flatMap dgC _=cg;cases cg<;>rfl)
  ·rw[hb1] at hrr
   simp only[Bool.true_or,if_true]
   repeat'(first|exact y0|refine y1 ?_|refine y2 ?_ ?_|(refine y8 ?_ ?_<;>intro h<;>try exact y6)|(refine wC ?_;first|(refine wF 62 ?_;refine CallG.mv [0] 0 hpa rfl rfl ⟨VLe.refl _,VLe.of_eq (congrArg nI (by push_cast;rfl)),trivial⟩ rfl rfl (fun φ w b=>BlAt.view 1 rfl) rfl ⟨⟨rfl,_,rfl,rfl,fun h=>h⟩,trivial⟩ rfl rfl rfl rfl ?_)|(refine wF 61 ?_;refine CallG.mv [0,5] 0 hrs rfl rfl ⟨VLe.refl _,VLe.refl _,VLe.refl _,VLe.refl _,trivial⟩ rfl rfl (fun φ w b=>viewR) rfl ⟨⟨rfl,_,rfl,rfl,fun h=>h⟩,⟨rfl,_,rfl,rfl,fun _=>rfl⟩,trivial⟩ rfl rfl rfl rfl ?_)|(refine wF 38 ?_;refine CallG.mv [0] 0 hrr rfl rfl ⟨VLe.refl _,VLe.refl _,trivial⟩ rfl rfl (fun φ w b=>BlAt.view 1 rfl) rfl ⟨⟨rfl,_,rfl,rfl,fun h=>h⟩,trivial⟩ rfl rfl rfl rfl ?_))|refine RegX.ldS [.val (ptV (T.getD i z0))] rfl rfl ?_ rfl ?_|refine y3 ?_|refine y7 ?_ ?_|refine y4 ?_|(refine y9 ?_ ?_<;>intro h)|exact y5|fail)
   all_goals try first
    |omega
    |(rw[hcat,hse];exact ldAt_pts (by omega))
   refine⟨.inl rfl,.tup [],[6,7],VLe.any _,EndOK.move rfl ?_ rfl ?_ rfl ?_ ?_⟩
   ·exact⟨rfl,rfl,rfl,MemP.op rfl trivial⟩
   ·(unfold ndL' dgB;generalize List.flatMap dgC _=cg;cases cg<;>rfl)
   ·(unfold ndL' dgB;generalize List.flatMap dgC _=cg;cases cg<;>rfl)
   ·(unfold ndL' dgB;generalize List.flatMap dgC _=cg;cases cg<;>rfl)
set_option maxRecDepth 100000
set_option maxHeartbeats 1000000
def lastBl:Fo→Fo
 | .nil=> .nil
 | .cons _ k .nil=>k
 | .cons _ _ n=>lastBl n
theorem args_last {c':Int}:∀ (ls:List Int) (t:Fo),(ls.all leafK)=true→t.V (ls.map (fun c=>(false,c))++[(true,c')])→∃ b,t.size=ls.length+1+(lastBl t).size∧∀ (p:List Nd) (i:Nat),t.At p i→(Fo.cons b (lastBl t) .nil).At p (i+ls.length)∧(Fo.cons b (lastBl t) .nil).V [(true,c')]
 |[],t,_,h=>by
  obtain⟨y,bl,n,rfl,h1,h2,h3⟩:=V_blk h;have:=V_nil h1;subst this;exact⟨y,by simp only[Fo.size,List.length_nil,lastBl];omega,fun p i ha=>⟨ha,h⟩⟩
 |c::ls,t,hl,h=>by
  simp only[List.all_cons,Bool.and_eq_true] at hl;obtain⟨y,n,rfl,h1,h2⟩:=V_leaf hl.1 h;obtain⟨b,g3,g1⟩:=args_last ls n hl.2 h1
  have hn:lastBl (.cons y .nil n)=lastBl n:=by
   cases n with
   |nil=>simp only[Fo.size] at g3;omega
   |cons a b c=>rfl
  rw[hn];refine⟨b,by simp only[Fo.size,List.length_cons];omega,fun p i ha=>?_⟩;have:=g1 p (i+1) (by simpa [Fo.size] using ha.2.2.2);rw[show i+(c::ls).length=i+1+ls.length by simp only[List.length_cons];omega];exact this
def nodeG (p:List Nd) (F:List (By×Nat)) (sc:Pth) (k:Fo) (i:Nat) (G:List (Nat×Nat)):List (Nat×Nat):=
 if (p.getD i dN).op=50∨(p.getD i dN).op=51 then (if numN p (i+1)<(p.getD (i+2) dN).kids then G++[(i,5)] else G)
 else if (p.getD i dN).op=16 then fieldG p F sc (lastBl k) i G
 else if (p.getD i dN).op=17 then (if resF p F 18 (candP sc (parseP (p.getD (i+1) dN).str).1)<0∨resF p F 18 (candP sc (parseP (p.getD (i+2) dN).str).1)<0 then G++[(i,6)] else G)
 else if (p.getD i dN).op=14 then metG p (lastBl k) i G
 else G
theorem node_c (p:List Nd) (hp:p.length≤2048) (hw:wfN p) (hI:wfI p) (hn:∀ j,j<p.length→NumAt p j) (nD:Nat) (T:List Pth) (hT:T.length=p.length) (hTl:∀ q∈T,q.segs.length≤1000000) (F:List (By×Nat)) (hF:∀ x∈F,x.2<p.length)
 (i:Nat) (x:Nd) (k:Fo) (sl:Bool×Int) (G:List (Nat×Nat)) (ha:(Fo.cons x k .nil).At p i) (hv:(Fo.cons x k .nil).V [sl]) (hG:G.length+4*2048≤1000000000):
 FC Tryz.prog 40 [.s (.ptr (some (0,0))),nI i] 8 (ndL p nD T F G) .any 10 (ndL' p nD T F (nodeG p F (T.getD i z0) k i G)):=by
 have hi:=At.lt ha;have hx:=At.get ha;have hsz:=At.size_le (Nat.le_of_lt hi) ha;simp only[Fo.size] at hsz
 have hse:(Tryz.prog.types[92]).size=3:=by kernel_rfl
 have hcat:plus 0 (times i (Tryz.prog.types[92]).size)=i*3:=by rw[hse,plus_eq,times_eq,Nat.zero_add]
 have hTg:(T.getD i z0).segs.length≤1000000:=hTl _ (by rw[List.getD_eq_getElem?_getD,List.getElem?_eq_getElem (by omega)];exact List.getElem_mem _)
 have hkk:∀ op,op≠4→x.op=op→k.V (slots (kindsB x.op x.kids).1):=by
  intro op h4 ho;obtain⟨b,c⟩:=sl;cases b
  ·exact hv.2.1
  ·exact absurd (ho.symm.trans hv.1.1) h4
 have k2:okH 8 (ndL p nD T F G)=true:=by unfold ndL dgB;generalize List.flatMap dgC _=cg;cases cg<;>rfl
 unfold nodeG;refine FC.walk (by kernel_rfl) Tryz.func40 rfl rfl ?_;by_cases h50:(p.getD i dN).op=50∨(p.getD i dN).op=51
 ·rw[if_pos h50]
  have hbl:∃ (K:Nat),(p.getD (i+2) dN).kids=(K:Int)∧i+2<p.length∧K≤2048:=by
   rcases h50 with h|h
   ·have h1:=hkk 50 (by decide) (hx▸h)
    rw[show x.op=50 from hx▸h] at h1;obtain⟨b,g1,g2⟩:=args_last [105] k rfl h1;have g3:=(g2 p (i+1) ha.2.2.1).1;have:=Fo.cnt_le (lastBl k);exact⟨(lastBl k).cnt,(congrArg Nd.kids (At.get g3)).trans g3.2.1,At.lt g3,by omega⟩
   ·have h1:=hkk 51 (by decide) (hx▸h)
    rw[show x.op=51 from hx▸h] at h1;obtain⟨b,g1,g2⟩:=args_last [105] k rfl h1;have g3:=(g2 p (i+1) ha.2.2.1).1;have:=Fo.cnt_le (lastBl k);exact⟨(lastBl k).cnt,(congrArg Nd.kids (At.get g3)).trans g3.2.1,At.lt g3,by omega⟩
  obtain⟨K,hK,hi2,hK2⟩:=hbl;have A1:=u64_in (z:=(p.getD (i+2) dN).kids) (by omega) (by omega)
  have hi1:i+1<p.length:=by omega
  by_cases hlt:numN p (i+1)<(p.getD (i+2) dN).kids
  ·rw[if_pos hlt]
   repeat'(first|exact y0|refine y1 ?_|refine y2 ?_ ?_|(refine y8 ?_ ?_<;>intro h<;>try(first|(exact absurd hlt (by assumption))|exact y6))|(refine wC ?_;first|(refine wF 39 ?_;refine CallG.mo [0,1,2,3,4,5,6,7] (report_c p nD G i 5 (by omega)) rfl (okH_op rfl rfl rfl) rfl rfl rfl ⟨VLe.refl _,VLe.refl _,VLe.refl _,trivial⟩ ⟨⟨rfl,_,rfl,rfl,fun h=>h⟩,FitP.op rfl rfl trivial⟩ rfl rfl (wr:=[(0,some (anB p 3 nD 9 (G.length+1))),(6,none),(9,dgB 9 (G++[(i,5)]))]) (by show [_,_,_]=_;rw[renO_op];rfl) ?_))|refine y3 ?_|refine y7 ?_ ?_|refine y4 ?_|(refine y9 ?_ ?_<;>intro h)|exact y5|fail)
   all_goals try first
    |omega
    |exact hi2
    |exact hi1
    |exact A1
   all_goals
    unfold ndL';rw[List.length_append,List.length_singleton];refine⟨.inr rfl,.tup [],[9,10],VLe.any _,EndOK.by rfl ?_ rfl ?_ rfl rfl⟩
    ·exact⟨rfl,rfl,rfl,MemP.op rfl trivial⟩
    ·((try unfold ndL');unfold dgB;generalize List.flatMap dgC _=cg;cases cg<;>rfl)
  ·rw[if_neg hlt]
   repeat'(first|exact y0|refine y1 ?_|refine y2 ?_ ?_|(refine y8 ?_ ?_<;>intro h<;>try(first|(exact absurd (by assumption) hlt)|exact y6))|refine y3 ?_|refine y7 ?_ ?_|refine y4 ?_|(refine y9 ?_ ?_<;>intro h)|exact y5|fail)
   all_goals try first
    |omega
    |exact hi2
    |exact hi1
    |exact A1
   all_goals
    refine⟨.inr rfl,.tup [],[6,7],VLe.any _,EndOK.move rfl ?_ rfl ?_ rfl ?_ ?_⟩
    ·exact⟨rfl,rfl,rfl,MemP.op rfl trivial⟩
    ·((try unfold ndL');unfold dgB;generalize List.flatMap dgC _=cg;cases cg<;>rfl)
    ·((try unfold ndL');unfold dgB;generalize List.flatMap dgC _=cg;cases cg<;>rfl)
    ·((try unfold ndL');unfold dgB;generalize List.flatMap dgC _=cg;cases cg<;>rfl)
 ·rw[if_neg h50]
  by_cases h16:(p.getD i dN).op=16
  ·rw[if_pos h16]
   have h1:=hkk 16 (by decide) (hx▸h16);rw[show x.op=16 from hx▸h16] at h1;obtain⟨b,g1,g2⟩:=args_last [110,105,105] k rfl h1;obtain⟨g3,g4⟩:=g2 p (i+1) ha.2.2.1;have hfi:=field_c p hp hw hI hn nD T hT hTl F hF i h16 b (lastBl k) G g3 g4 hG;generalize fieldG p F (T.getD i z0) (lastBl k) i G=G' at*
   repeat'(first|exact y0|refine y1 ?_|refine y2 ?_ ?_|(refine y8 ?_ ?_<;>intro h<;>try exact y6)|(refine wC ?_;first|(refine wF 60 ?_;refine CallG.mo [0,1,2,3,4,5,6,7] hfi rfl k2 rfl rfl rfl ⟨VLe.refl _,VLe.refl _,trivial⟩ ⟨⟨rfl,_,rfl,rfl,fun h=>h⟩,⟨rfl,_,rfl,rfl,fun h=>h⟩,⟨rfl,_,rfl,rfl,fun h=>h⟩,FitP.op rfl rfl trivial⟩ rfl rfl (wr:=[(0,some (anB p 3 nD 9 G'.length)),(1,some (scB T)),(5,some (mapB F)),(6,none),(9,dgB 9 G')]) (by show [_,_,_,_,_]=_;rw[renO_op];rfl) ?_))|refine y3 ?_|refine y7 ?_ ?_|refine y4 ?_|(refine y9 ?_ ?_<;>intro h)|exact y5|fail)
   all_goals try omega
   all_goals
    refine⟨.inr rfl,.tup [],[9,10],VLe.any _,EndOK.by rfl ?_ rfl ?_ rfl rfl⟩
    ·exact⟨rfl,rfl,rfl,MemP.op rfl trivial⟩
    ·((try unfold ndL');unfold dgB;generalize List.flatMap dgC _=cg;cases cg<;>rfl)
  ·rw[if_neg h16]
   by_cases h17:(p.getD i dN).op=17
   ·rw[if_pos h17]
    have h1:=hkk 17 (by decide) (hx▸h17);rw[show x.op=17 from hx▸h17] at h1;obtain⟨b,g1,g2⟩:=args_last [110,110,105,105] k rfl h1;simp only[List.length_cons,List.length_nil] at g1;have hpa:=pathAt_c p hw (i+1) (by omega);have hpb:=pathAt_c p hw (i+2) (by omega);have hra:=resolve_c p hp F hF (T.getD i z0) (parseP (p.getD (i+1) dN).str).1 hTg 18;have hrb:=resolve_c p hp F hF (T.getD i z0) (parseP (p.getD (i+2) dN).str).1 hTg 18;generalize resF p F 18 (candP (T.getD i z0) (parseP (p.getD (i+1) dN).str).1)=ra at*;generalize resF p F 18 (candP (T.getD i z0) (parseP (p.getD (i+2) dN).str).1)=rb at*;by_cases hlt:ra<0∨rb<0
    ·rw[if_pos hlt]
     repeat'(first|exact y0|refine y1 ?_|refine y2 ?_ ?_|(refine y8 ?_ ?_<;>intro h<;>try exact y6)|(refine wC ?_;first|(refine wF 62 ?_;refine CallG.mv [0] 0 hpa rfl rfl ⟨VLe.refl _,VLe.of_eq (congrArg nI (by push_cast;rfl)),trivial⟩ rfl rfl (fun φ w b=>BlAt.view 1 rfl) rfl ⟨⟨rfl,_,rfl,rfl,fun h=>h⟩,trivial⟩ rfl rfl rfl rfl ?_)|(refine wF 62 ?_;refine CallG.mv [0] 0 hpb rfl rfl ⟨VLe.refl _,VLe.of_eq (congrArg nI (by push_cast;rfl)),trivial⟩ rfl rfl (fun φ w b=>BlAt.view 1 rfl) rfl ⟨⟨rfl,_,rfl,rfl,fun h=>h⟩,trivial⟩ rfl rfl rfl rfl ?_)|(refine wF 61 ?_;refine CallG.mv [0,5] 0 hra rfl rfl ⟨VLe.refl _,VLe.refl _,VLe.refl _,VLe.refl _,trivial⟩ rfl rfl (fun φ w b=>viewR) rfl ⟨⟨rfl,_,rfl,rfl,fun h=>h⟩,⟨rfl,_,rfl,rfl,fun _=>rfl⟩,trivial⟩ rfl rfl rfl rfl ?_)|(refine wF 61 ?_;refine CallG.mv [0,5] 0 hrb rfl rfl ⟨VLe.refl _,VLe.refl _,VLe.refl _,VLe.refl _,trivial⟩ rfl rfl (fun φ w b=>viewR) rfl ⟨⟨rfl,_,rfl,rfl,fun h=>h⟩,⟨rfl,_,rfl,rfl,fun _=>rfl⟩,trivial⟩ rfl rfl rfl rfl ?_)|(refine wF 39 ?_;refine CallG.mo [0,1,2,3,4,5,6,7] (report_c p nD G i 6 (by omega)) rfl (okH_op rfl rfl rfl) rfl rfl rfl ⟨VLe.refl _,VLe.refl _,VLe.refl _,trivial⟩ ⟨⟨rfl,_,rfl,rfl,fun h=>h⟩,FitP.op rfl rfl trivial⟩ rfl rfl (wr:=[(0,some (anB p 3 nD 9 (G.length+1))),(6,none),(9,dgB 9 (G++[(i,6)]))]) (by show [_,_,_]=_;rw[renO_op];rfl) ?_))|refine RegX.ldS [.val (ptV (T.getD i z0))] rfl rfl ?_ rfl ?_|refine y3 ?_|refine y7 ?_ ?_|refine y4 ?_|(refine y9 ?_ ?_<;>intro h)|exact y5|fail)
     all_goals try first
      |omega
      |(rw[hcat,hse];exact ldAt_pts (by omega))
     all_goals
      unfold ndL';rw[List.length_append,List.length_singleton];refine⟨.inr rfl,.tup [],[9,10],VLe.any _,EndOK.by rfl ?_ rfl ?_ rfl rfl⟩
      ·exact⟨rfl,rfl,rfl,MemP.op rfl trivial⟩
      ·((try unfold ndL');unfold dgB;generalize List.flatMap dgC _=cg;cases cg<;>rfl)
    ·rw[if_neg hlt]
     repeat'(first|exact y0|refine y1 ?_|refine y2 ?_ ?_|(refine y8 ?_ ?_<;>intro h<;>try exact y6)|(refine wC ?_;first|(refine wF 62 ?_;refine CallG.mv [0] 0 hpa rfl rfl ⟨VLe.refl _,VLe.of_eq (congrArg nI (by push_cast;rfl)),trivial⟩ rfl rfl (fun φ w b=>BlAt.view 1 rfl) rfl ⟨⟨rfl,_,rfl,rfl,fun h=>h⟩,trivial⟩ rfl rfl rfl rfl ?_)|(refine wF 62 ?_;refine CallG.mv [0] 0 hpb rfl rfl ⟨VLe.refl _,VLe.of_eq (congrArg nI (by push_cast;rfl)),trivial⟩ rfl rfl (fun φ w b=>BlAt.view 1 rfl) rfl ⟨⟨rfl,_,rfl,rfl,fun h=>h⟩,trivial⟩ rfl rfl rfl rfl ?_)|(refine wF 61 ?_;refine CallG.mv [0,5] 0 hra rfl rfl ⟨VLe.refl _,VLe.refl _,VLe.refl _,VLe.refl _,trivial⟩ rfl rfl (fun φ w b=>viewR) rfl ⟨⟨rfl,_,rfl,rfl,fun h=>h⟩,⟨rfl,_,rfl,rfl,fun _=>rfl⟩,trivial⟩ rfl rfl rfl rfl ?_)|(refine wF 61 ?_;refine CallG.mv [0,5] 0 hrb rfl rfl ⟨VLe.refl _,VLe.refl _,VLe.refl _,VLe.refl _,trivial⟩ rfl rfl (fun φ w b=>viewR) rfl ⟨⟨rfl,_,rfl,rfl,fun h=>h⟩,⟨rfl,_,rfl,rfl,fun _=>rfl⟩,trivial⟩ rfl rfl rfl rfl ?_))|refine RegX.ldS [.val (ptV (T.getD i z0))] rfl rfl ?_ rfl ?_|refine y3 ?_|refine y7 ?_ ?_|refine y4 ?_|(refine y9 ?_ ?_<;>intro h)|exact y5|fail)
     all_goals try first
      |omega
      |(rw[hcat,hse];exact ldAt_pts (by omega))
     all_goals
      refine⟨.inr rfl,.tup [],[6,7],VLe.any _,EndOK.move rfl ?_ rfl ?_ rfl ?_ ?_⟩
      ·exact⟨rfl,rfl,rfl,MemP.op rfl trivial⟩
      ·((try unfold ndL');unfold dgB;generalize List.flatMap dgC _=cg;cases cg<;>rfl)
      ·((try unfold ndL');unfold dgB;generalize List.flatMap dgC _=cg;cases cg<;>rfl)
      ·((try unfold ndL');unfold dgB;generalize List.flatMap dgC _=cg;cases cg<;>rfl)
   ·rw[if_neg h17]
    by_cases h14:(p.getD i dN).op=14
    ·rw[if_pos h14]
     have h1:=hkk 14 (by decide) (hx▸h14);rw[show x.op=14 from hx▸h14] at h1;obtain⟨b,g1,g2⟩:=args_last [115,105,105,105] k rfl h1;obtain⟨g3,g4⟩:=g2 p (i+1) ha.2.2.1;simp only[List.length_cons,List.length_nil] at g1;have he:=At.ends1 ha;rw[show i+1+k.size=i+6+(lastBl k).size by omega] at he;have hme:=met_c p hp nD i b (lastBl k) G he g3 g4 hG;generalize metG p (lastBl k) i G=G' at*
     repeat'(first|exact y0|refine y1 ?_|refine y2 ?_ ?_|(refine y8 ?_ ?_<;>intro h<;>try exact y6)|(refine wC ?_;first|(refine wF 63 ?_;refine CallG.mo [0,1,2,3,4,5,6,7] hme rfl (okH_op rfl rfl rfl) rfl rfl rfl ⟨VLe.refl _,VLe.refl _,trivial⟩ ⟨⟨rfl,_,rfl,rfl,fun h=>h⟩,FitP.op rfl rfl trivial⟩ rfl rfl (wr:=[(0,some (anB p 3 nD 9 G'.length)),(6,none),(9,dgB 9 G')]) (by show [_,_,_]=_;rw[renO_op];rfl) ?_))|refine y3 ?_|refine y7 ?_ ?_|refine y4 ?_|(refine y9 ?_ ?_<;>intro h)|exact y5|fail)
     all_goals try omega
     all_goals
      refine⟨.inr rfl,.tup [],[9,10],VLe.any _,EndOK.by rfl ?_ rfl ?_ rfl rfl⟩
      ·exact⟨rfl,rfl,rfl,MemP.op rfl trivial⟩
      ·((try unfold ndL');unfold dgB;generalize List.flatMap dgC _=cg;cases cg<;>rfl)
    ·rw[if_neg h14]
     repeat'(first|exact y0|refine y1 ?_|refine y2 ?_ ?_|(refine y8 ?_ ?_<;>intro h<;>try exact y6)|refine y3 ?_|refine y7 ?_ ?_|refine y4 ?_|(refine y9 ?_ ?_<;>intro h)|exact y5|fail)
     all_goals try omega
     all_goals
      refine⟨.inr rfl,.tup [],[6,7],VLe.any _,EndOK.move rfl ?_ rfl ?_ rfl ?_ ?_⟩
      ·exact⟨rfl,rfl,rfl,MemP.op rfl trivial⟩
      ·((try unfold ndL');unfold dgB;generalize List.flatMap dgC _=cg;cases cg<;>rfl)
      ·((try unfold ndL');unfold dgB;generalize List.flatMap dgC _=cg;cases cg<;>rfl)
      ·((try unfold ndL');unfold dgB;generalize List.flatMap dgC _=cg;cases cg<;>rfl)
set_option maxRecDepth 100000
set_option maxHeartbeats 1000000
theorem SubF.cons {i:Nat} {bl bl':Bl} {L L':Hp} (hr:bl'.ro=bl.ro) (hb:∀ φ w b,BlAt φ w b bl→BlAt φ w b bl') (h:SubF L' L):SubF ((i,some bl')::L') ((i,some bl)::L):=by
 intro j c hj;rw[lk_cons] at hj ⊢;split at hj
 ·cases hj;rw[if_pos ‹_›];exact⟨bl,rfl,hr,hb⟩
 ·rw[if_neg ‹_›];exact h j c hj
theorem pts_rep (n:Nat):All2 SLe (rep n [S.bool false,S.int IntKind.i64 0,S.slc none 0 (some 0)]) ((List.replicate n z0).flatMap ptC):=by
 refine All2.of_get (by rw[rep_length,flat_len];simp) fun i a b ha hb=>?_
 have hi:i<n*3:=by
  rcases Nat.lt_or_ge i (rep n [S.bool false,S.int IntKind.i64 0,S.slc none 0 (some 0)]).length with h|h
  ·rwa [rep_length] at h
  ·rw[List.getElem?_eq_none h] at ha;cases ha
 rw[rep_get _ _ _ hi] at ha
 have hk:i/3<(List.replicate n z0).length:=by rw[List.length_replicate];omega
 have hg:(List.replicate n z0).getD (i/3) z0=z0:=by simp only[List.getD_eq_getElem?_getD,List.getElem?_replicate];split<;>rfl
 have hx:∀ x,(ptC z0)[i%3]? =some x→((List.replicate n z0).flatMap ptC)[i]? =some x:=fun x hx=>by
  have:=(pts_get (l:=List.replicate n z0) (k:=i/3) (j:=i%3) (x:=x) hk (by rw[hg];exact hx)).1
  rwa [show i/3*3+i%3=i by omega] at this
 have hm:i%3<3:=Nat.mod_lt _ (by decide);have ha:[S.bool false,S.int IntKind.i64 0,S.slc none 0 (some 0)][i%3]? =some a:=ha;generalize i%3=m at*
 match m,hm with
 |0,_=>rw[hx _ rfl] at hb;cases hb;cases ha;exact SLe.refl _
 |1,_=>rw[hx _ rfl] at hb;cases hb;cases ha;exact SLe.refl _
 |2,_=>rw[hx _ rfl] at hb;cases hb;cases ha;exact SLe.nil
def st0 (p:List Nd):St:=⟨List.replicate p.length z0,[],[],[]⟩
def anS (p:List Nd) (t:Fo):St:=declS false t 0 ⟨true,0,[]⟩ (st0 p)
theorem analyze_c (p:List Nd) (hp:p.length≤2048) (hw:wfN p) (t:Fo) (ha:t.At p 0) (hv:t.V (List.replicate t.cnt (false,68))) (hs:t.size=p.length):
 FC Tryz.prog 37 [nodes p] 0 [] (.s (.ptr (some (0,0)))) 8 (anL p (anS p t)):=by
 have hsz:(Tryz.prog.types[92]).size=3:=by kernel_rfl
 have hby:(Tryz.prog.types[92]).bytes=40:=by kernel_rfl
 generalize hU:anS p t=U;refine FC.walk (by kernel_rfl) Tryz.func37 rfl rfl ?_
 repeat'(first|exact y0|refine y1 ?_|refine y2 ?_ ?_|(refine y8 ?_ ?_<;>intro h<;>try exact y6)|refine y3 ?_|refine y7 ?_ ?_|refine y4 ?_|(refine y9 ?_ ?_<;>intro h)|exact y5|fail)
 refine RegX.opA [.idx p.length,.idx p.length] rfl rfl ?_ ?_
 ·rw[hby];exact⟨rfl,rfl,Nat.le_refl _,by omega,by omega⟩
 repeat'(first|exact y0|refine y1 ?_|refine y2 ?_ ?_|(refine y8 ?_ ?_<;>intro h<;>try exact y6)|refine RegX.mkm rfl ?_|refine y3 ?_|refine y7 ?_ ?_|refine y4 ?_|(refine y9 ?_ ?_<;>intro h)|exact y5|fail)
 refine Ex.subF (L':=[(0,some (scB (List.replicate p.length z0))),(1,some (mapB [])),(2,some {cells:=[.frz (fun k=>ndC (p.getD k dN)) 4 p.length,.slc (some (0,0)) p.length (some p.length),.row 3 4 0,.map (some 1),.row 5 6 0],ty:=67})]) ?_ ?_
 ·refine SubF.cons rfl ?_ (SubF.cons rfl ?_ (SubF.cons rfl ?_ (SubF.refl _)))
  ·exact fun φ w b h=>BlAt.cells (pts_rep p.length) h
  ·exact fun φ w b h=>h
  ·exact fun φ w b h=>BlAt.cells (bl:={cells:=[.frz (fun k=>ndC (p.getD k dN)) 4 p.length,.slc (some (0,0)) p.length (some p.length),.slc none 0 (some 0),.map (some 1),.slc none 0 (some 0)],ty:=67}) (cs:=[.frz (fun k=>ndC (p.getD k dN)) 4 p.length,.slc (some (0,0)) p.length (some p.length),.row 3 4 0,.map (some 1),.row 5 6 0]) ⟨SLe.refl _,SLe.refl _,SLe.nilrow,SLe.refl _,SLe.nilrow,trivial⟩ h
 refine Ex.canon [2,0,7,3,4,1,5,6] 21 [(0,nodes p),(3,.s (.ptr (some (0,0)))),(4,nI 0)] (anL p (st0 p)) rfl rfl ⟨VLe.refl _,VLe.refl _,VLe.refl _,trivial⟩ ⟨rfl,rfl,rfl,trivial⟩ rfl ?_
 refine Ex.inv (σ:=Fo×Nat×St) (fun q=>[(4,nI q.2.1)]) (fun q=>anL p q.2.2)
  (fun q=>q.1.At p q.2.1∧q.1.V (List.replicate q.1.cnt (false,68))∧q.2.1+q.1.size=p.length∧q.2.2.S.length=p.length∧q.2.2.D.length≤q.2.1∧q.2.2.G.length≤q.2.1∧declS false q.1 q.2.1 ⟨true,0,[]⟩ q.2.2=U) (fun q=>q.1.size) (t,0,st0 p) rfl (fun _=>rfl) ?_ ?_ ?_ ?_
 ·exact⟨ha,hv,by simp only;omega,by simp[st0],Nat.le_refl _,Nat.le_refl _,hU⟩
 ·exact⟨VLe.refl _,trivial⟩
 ·exact⟨rfl,rfl,rfl,trivial⟩
 ·rintro⟨t,j,s⟩ ⟨t1,t2,t3,t4,t5,t6,t7⟩
  simp only at t1 t2 t3 t4 t5 t6 t7 ⊢
  cases t with
  |nil=>
   simp only[Fo.size,Nat.add_zero] at t3;simp only[declS] at t7;subst t7
   repeat'(first|exact y0|refine y1 ?_|refine y2 ?_ ?_|(refine y8 ?_ ?_<;>intro h<;>try exact y6)|refine y3 ?_|refine y7 ?_ ?_|refine y4 ?_|(refine y9 ?_ ?_<;>intro h)|exact y5|fail)
   all_goals try omega
   refine⟨.inl rfl,_,[0,1,2,3,4,5,6,7],VLe.refl _,EndOK.by rfl ?_ rfl ?_ rfl rfl⟩
   ·exact⟨rfl,rfl,MemP.op rfl ⟨rfl,MemP.op rfl trivial⟩⟩
   ·(unfold anL dcB dgB;generalize List.flatMap dcC _=cd;generalize List.flatMap dgC _=cg;cases cd<;>cases cg<;>rfl)
  |cons x k n=>
   simp only[Fo.size] at t3
   have hr:declS false (.cons x k n) j ⟨true,0,[]⟩ s=declS false n (j+1+k.size) ⟨true,0,[]⟩ (declS false (.cons x k .nil) j ⟨true,0,[]⟩ s):=by simp only[declS]
   rw[hr] at t7;have hl:=declS_len false (.cons x k .nil) j ⟨true,0,[]⟩ s;simp only[Fo.size,Nat.add_zero] at hl;have hrec:=decl_all p hp hw (k.size+1) x k 68 j ⟨true,0,[]⟩ s (Nat.lt_succ_self _) (.inl rfl) ⟨t1.1,t1.2.1,t1.2.2.1,trivial⟩ ⟨t2.1,t2.2.1,trivial⟩ t4 t5 t6;generalize declS false (.cons x k .nil) j ⟨true,0,[]⟩ s=s' at*
   have k2:okH 8 (anL p s)=true:=by (unfold anL dcB dgB;generalize List.flatMap dcC _=cd;generalize List.flatMap dgC _=cg;cases cd<;>cases cg<;>rfl)
   repeat'(first|exact y0|refine y1 ?_|refine y2 ?_ ?_|(refine y8 ?_ ?_<;>intro h<;>try exact y6)|(refine wC ?_;first|(refine wF 57 ?_;refine CallG.mo [0,1,2,3,4,5,6,7] hrec rfl k2 rfl rfl rfl ⟨VLe.refl _,VLe.refl _,VLe.agg ⟨SLe.refl _,SLe.refl _,SLe.nil,trivial⟩,trivial⟩ ⟨⟨rfl,_,rfl,rfl,fun h=>h⟩,⟨rfl,_,rfl,rfl,fun h=>h⟩,FitP.op rfl rfl ⟨⟨rfl,_,rfl,rfl,fun h=>h⟩,FitP.op rfl rfl trivial⟩⟩ rfl rfl (wr:=[(0,some (anB p 8 s'.D.length 10 s'.G.length)),(1,some (scB s'.S)),(3,none),(6,none),(5,some (mapB s'.F)),(8,dcB 8 s'.D),(10,dgB 10 s'.G)]) (by show [_,_,_,_,_,_,_]=_;rw[renO_op,renO_op];rfl) ?_))|refine y3 ?_|refine y7 ?_ ?_|refine y4 ?_|(refine y9 ?_ ?_<;>intro h)|exact y5|fail)
   all_goals try omega
   refine LoopR.move (n,j+1+k.size,s') ⟨t1.2.2.2,t2.2.2,by simp only;omega,by simp only;omega,by simp only;omega,by simp only;omega,t7⟩ (by simp only[Fo.size];omega) [0,1,2,8,9,5,10,11] rfl ?_ ?_ ?_
   ·repeat' (first|exact VLe.refl _|exact VLe.any _|exact True.intro|refine⟨?_,?_⟩)
   ·exact⟨rfl,rfl,MemP.op rfl ⟨rfl,MemP.op rfl trivial⟩⟩
   ·(unfold anL dcB dgB;generalize List.flatMap dcC _=cd;generalize List.flatMap dgC _=cg;cases cd<;>cases cg<;>rfl)
end Go.Proofs.YtphdhedhhlfepaaGreatDoor
