import Derived.Test.YtphdhedhhlfepaaGreatDoorCzC18
import Derived.Shelf.Strings.OnBuilder
import Derived.Below
import Derived.Test.YtphdhedhhlfepaaGreatDoorRows
import Derived.Test.YtphdhedhhlfepaaGreatDoorCzC17
set_option linter.unusedSimpArgs false
set_option linter.unusedVariables false
namespace Go.Proofs.YtphdhedhhlfepaaGreatDoor
open Go Ab
inductive Fo where
 |nil
 |cons (x:Nd) (k n:Fo)
def Fo.flat:Fo→List Nd
 | .nil=>[]
 | .cons x k n=>x::(k.flat++n.flat)
def Fo.cnt:Fo→Nat
 | .nil=>0
 | .cons _ _ n=>n.cnt+1
def Fo.size:Fo→Nat
 | .nil=>0
 | .cons _ k n=>1+k.size+n.size
def Fo.dep:Fo→Nat
 | .nil=>0
 | .cons _ k n=>max (1+k.dep) n.dep
def Fo.At (p:List Nd):Fo→Nat→Prop
 | .nil,_=>True
 | .cons x k n,i=>p[i]? =some x∧x.kids=(k.cnt:Int)∧k.At p (i+1)∧n.At p (i+1+k.size)
def slots (ks:By):List (Bool×Int):=ks.map fun c=>(isBlkB (c.toNat:Int),(c.toNat:Int))
def Fo.V:Fo→List (Bool×Int)→Prop
 | .nil,[]=>True
 | .cons x k n,(true,c)::cs=>(x.op=4∧x.int=0∧x.str=[])∧k.V (List.replicate k.cnt (false,c))∧n.V cs
 | .cons x k n,(false,c)::cs=>(accB c x.op=true∧fieldsB x c=true∧(kindsB x.op x.kids).2=true)∧k.V (slots (kindsB x.op x.kids).1)∧n.V cs
 |_,_=>False
theorem Fo.V_cnt:∀ {t:Fo} {cs:List (Bool×Int)},t.V cs→t.cnt=cs.length
 | .nil,[],_=>rfl
 | .nil,_::_,h=>h.elim
 | .cons x k n,[],h=>by simp[V] at h
 | .cons x k n,(true,c)::cs,h=>by simp only[cnt,List.length_cons,V_cnt h.2.2]
 | .cons x k n,(false,c)::cs,h=>by simp only[cnt,List.length_cons,V_cnt h.2.2]
theorem Fo.cnt_le:∀ t:Fo,t.cnt≤t.size
 | .nil=>Nat.le_refl _
 | .cons x k n=>by have:=cnt_le n;simp only[cnt,size];omega
def TreeAt (p:List Nd) (sl:Bool×Int) (f i e:Nat):Prop:=∃ x k,(Fo.cons x k .nil).At p i∧(Fo.cons x k .nil).V [sl]∧k.dep<f∧e=i+1+k.size
def ForestAt (p:List Nd) (cs:List (Bool×Int)) (f i e:Nat):Prop:=∃ t:Fo,t.At p i∧t.V cs∧t.dep≤f∧e=i+t.size
theorem ForestAt.cons {p:List Nd} {sl:Bool×Int} {cs:List (Bool×Int)} {f i e e':Nat} (h:TreeAt p sl f i e) (r:ForestAt p cs f e e'):ForestAt p (sl::cs) f i e':=by
 obtain⟨x,k,h1,h2,h3,rfl⟩:=h;obtain⟨t,r1,r2,r3,rfl⟩:=r;refine⟨.cons x k t,⟨h1.1,h1.2.1,h1.2.2.1,r1⟩,?_,?_,?_⟩
 ·obtain⟨b,c⟩:=sl
  cases b
  ·exact⟨h2.1,h2.2.1,r2⟩
  ·exact⟨h2.1,h2.2.1,r2⟩
 ·simp only[Fo.dep];omega
 ·simp only[Fo.size];omega
theorem ForestAt.nil (p:List Nd) (f i:Nat):ForestAt p [] f i i:=⟨.nil,trivial,trivial,Nat.zero_le _,rfl⟩
theorem ForestAt.block {p:List Nd} {sl:Bool×Int} {f:Nat} {rec:Nat→Option Nat} (hr:∀ i e,rec i=some e→TreeAt p sl f i e):∀ (k i e:Nat),blockF rec k i=some e→ForestAt p (List.replicate k sl) f i e
 |0,i,e,h=>by simp only[blockF,Option.some.injEq] at h;subst h;exact ForestAt.nil ..
 |k+1,i,e,h=>by
  simp only[blockF] at h;split at h
  ·rename_i e1 h1
   exact ForestAt.cons (hr _ _ h1) (ForestAt.block hr k e1 e h)
  ·cases h
theorem ForestAt.kids {p:List Nd} {f:Nat} {ch:Int→Nat→Option Nat} (hch:∀ k i e,ch k i=some e→TreeAt p (isBlkB k,k) f i e):∀ (ks:By) (i e:Nat),kidsF ch ks i=some e→ForestAt p (slots ks) f i e
 |[],i,e,h=>by simp only[kidsF,Option.some.injEq] at h;subst h;exact ForestAt.nil ..
 |k::ks,i,e,h=>by
  simp only[kidsF] at h;split at h
  ·rename_i e1 h1
   exact ForestAt.cons (hch _ _ _ h1) (ForestAt.kids hch ks e1 e h)
  ·cases h
def TreeP (p:List Nd) (f:Nat) (E:Nat→Int→Option Nat):Prop:=∀ i k e,E i k=some e→TreeAt p (false,k) f i e
theorem TreeP.elemS {p:List Nd} {ok:Bool} {f:Nat} {E0 E1:Nat→Int→Option Nat} (h0:TreeP p f E0) (h1:ok=true→TreeP p (f-1) E1) (hf:ok=true→1≤f):TreeP p (f+1) (elemS p ok E0 E1):=by
 intro i k e h;unfold Go.Proofs.YtphdhedhhlfepaaGreatDoor.elemS at h;split at h
 ·cases h
 ·rename_i x hx
  split at h
  ·rename_i hc
   have hk:=kinds_len _ _ hc.2.2
   obtain⟨t,t1,t2,t3,t4⟩:=ForestAt.kids (p:=p) (f:=f) (fun k i e hch=>(by
    unfold childF at hch;split at hch
    ·rename_i hb
     split at hch
     ·cases hch
     ·rename_i y hy
      split at hch
      ·rename_i hyb
       obtain⟨b1,b2,b3,b4,b5⟩:=hyb;obtain⟨t,t1,t2,t3,t4⟩:=ForestAt.block (fun i e h=>h1 b1 i k e h) _ _ _ hch;have hcnt:=Fo.V_cnt t2;rw[List.length_replicate] at hcnt;rw[hb];refine⟨y,t,⟨hy,by rw[hcnt];omega,t1,trivial⟩,⟨⟨b2,b3,b4⟩,by rw[hcnt];exact t2,trivial⟩,?_,by omega⟩;have:=hf b1;omega
      ·cases hch
    ·rename_i hb
     have hb:isBlkB k=false:=by simpa using hb
     rw[hb]
     exact h0 i k e hch)) _ _ _ h
   have hcnt:=Fo.V_cnt t2;rw[slots,List.length_map] at hcnt;exact⟨x,t,⟨hx,by rw[hcnt,hk],t1,trivial⟩,⟨hc,t2,trivial⟩,by omega,by omega⟩
  ·cases h
theorem TreeP.elemF {p:List Nd}:∀ f,TreeP p f (Go.Proofs.YtphdhedhhlfepaaGreatDoor.elemF p f)∧TreeP p (f+1) (Go.Proofs.YtphdhedhhlfepaaGreatDoor.elemF p (f+1))
 |0=>by
  refine⟨fun i k e h=>(by cases h),?_⟩;rw[elemF_succ];exact TreeP.elemS (fun i k e h=>by cases h) (fun h=>by simp at h) (fun h=>by simp at h)
 |f+1=>by
  have ih:=TreeP.elemF (p:=p) f;refine⟨ih.2,?_⟩;rw[elemF_succ];exact TreeP.elemS ih.2 (fun _=>ih.1) (fun _=>by omega)
theorem top_forest {p:List Nd}:∀ (n i:Nat),i≤p.length→topF p n i=true→∃ t:Fo,t.At p i∧t.V (List.replicate t.cnt (false,68))∧t.dep≤32∧p.length=i+t.size
 |0,i,_,h=>by cases h
 |n+1,i,hi,h=>by
  simp only[topF] at h;split at h
  ·rename_i hlt
   split at h
   ·rename_i e he
    obtain⟨x,k,h1,h2,h3,h4⟩:=(TreeP.elemF (p:=p) 32).1 i 68 e he;obtain⟨t,t1,t2,t3,t4⟩:=top_forest n e (elemF_le he).2 h;subst h4;refine⟨.cons x k t,⟨h1.1,h1.2.1,h1.2.2.1,t1⟩,⟨h2.1,h2.2.1,t2⟩,?_,?_⟩
    ·simp only[Fo.dep];omega
    ·simp only[Fo.size];omega
   ·cases h
  ·rename_i hge
   exact⟨.nil,trivial,trivial,Nat.zero_le _,by simp only[Fo.size];omega⟩
theorem valid_forest {p:List Nd} (h:validN p=true):p.length≤2048∧∃ t:Fo,t.At p 0∧t.V (List.replicate t.cnt (false,68))∧t.dep≤32∧t.size=p.length:=by
 unfold validN at h;simp only[Bool.and_eq_true,decide_eq_true_eq] at h;obtain⟨t,t1,t2,t3,t4⟩:=top_forest _ 0 (Nat.zero_le _) h.2;exact⟨h.1,t,t1,t2,t3,by omega⟩
theorem At.lt {p:List Nd} {x:Nd} {k n:Fo} {i:Nat} (h:(Fo.cons x k n).At p i):i<p.length:=by
 rcases Nat.lt_or_ge i p.length with q|q
 ·exact q
 ·have:=h.1;rw[List.getElem?_eq_none q] at this;cases this
theorem At.get {p:List Nd} {x:Nd} {k n:Fo} {i:Nat} (h:(Fo.cons x k n).At p i):p.getD i dN=x:=by
 rw[List.getD_eq_getElem?_getD,h.1];rfl
theorem At.ends {p:List Nd}:∀ {t:Fo} {i m e:Nat},t.At p i→Ends p e m (i+t.size)→Ends p e (m+t.cnt) i
 | .nil,i,m,e,_,r=>r
 | .cons x k n,i,m,e,h,r=>by
   have hk:(p.getD i dN).kids=(k.cnt:Nat):=by rw[At.get h];exact h.2.1
   have r1:Ends p e (m+n.cnt) (i+1+k.size):=At.ends h.2.2.2 (by simp only[Fo.size] at r;rw[show i+1+k.size+n.size=i+(1+k.size+n.size) by omega];exact r);have r2:Ends p e (m+n.cnt+k.cnt) (i+1):=At.ends h.2.2.1 r1;exact Ends.step (At.lt h) k.cnt hk r2
theorem At.ends1 {p:List Nd} {x:Nd} {k n:Fo} {i:Nat} (h:(Fo.cons x k n).At p i):Ends p (i+1+k.size) 1 i:=by
 have h1:(Fo.cons x k .nil).At p i:=⟨h.1,h.2.1,h.2.2.1,trivial⟩
 have:=At.ends (m:=0) (e:=i+1+k.size) h1 (by simp only[Fo.size];rw[show i+(1+k.size+0)=i+1+k.size by omega];exact Ends.done)
 simpa [Fo.cnt] using this
def Fo.starts:Fo→Nat→List Nat
 | .nil,_=>[]
 | .cons _ k n,i=>i::n.starts (i+1+k.size)
theorem starts_len:∀ (t:Fo) (i:Nat),(t.starts i).length=t.cnt
 | .nil,_=>rfl
 | .cons x k n,i=>by simp only[Fo.starts,List.length_cons,starts_len n,Fo.cnt]
theorem At.chain {p:List Nd}:∀ {t:Fo} {i:Nat},t.At p i→Chain p (i+t.size) i (t.starts i)
 | .nil,i,_=>Chain.nil
 | .cons x k n,i,h=>by
   refine Chain.cons (At.ends1 h) ?_;have:=At.chain h.2.2.2;simp only[Fo.size];rw[show i+1+k.size+n.size=i+(1+k.size+n.size) by omega] at this;exact this
theorem At.size_le {p:List Nd}:∀ {t:Fo} {i:Nat},i≤p.length→t.At p i→i+t.size≤p.length
 | .nil,i,hi,_=>hi
 | .cons x k n,i,hi,h=>by
   have h1:=At.lt h;have h2:=At.size_le h1 h.2.2.1;have:=At.size_le h2 h.2.2.2;simp only[Fo.size];omega
end Go.Proofs.YtphdhedhhlfepaaGreatDoor
namespace Go.Proofs.YtphdhedhhlfepaaGreatDoor
open Go.Shelf Go.RowKit
def Tryz.lays156_ren:Go.Shelf.Ren:=⟨fun|156=>147|165=>163|166=>164|169=>166|240=>177|241=>178|276=>181|277=>182|n=>n,fun|31=>59|9=>9|3=>3|4=>4|0=>0|20=>20|72=>190|76=>193|70=>188|37=>180|75=>192|127=>205|164=>207|5=>5|80=>98|n=>n,fun|n=>n⟩
theorem Tryz.lays156:Go.Proofs.Lays.n156 Tryz.prog Tryz.lays156_ren:={
 mixed:=by kernel_rfl
 f156:=Tryz.func147.trans (congrArg some (by kernel_rfl))
 f165:=Tryz.func163.trans (congrArg some (by kernel_rfl))
 f166:=Tryz.func164.trans (congrArg some (by kernel_rfl))
 f169:=Tryz.func166.trans (congrArg some (by kernel_rfl))
 f240:=Tryz.func177.trans (congrArg some (by kernel_rfl))
 f241:=Tryz.func178.trans (congrArg some (by kernel_rfl))
 f276:=Tryz.func181.trans (congrArg some (by kernel_rfl))
 f277:=Tryz.func182.trans (congrArg some (by kernel_rfl))
 t0:=Tryz.underlying0
 a0:=Tryz.isAgg0
 z0:=Tryz.sizeOf0
 v0:=Tryz.zeroValue0
 t3:=Tryz.underlying3
 a3:=Tryz.isAgg3
 z3:=Tryz.sizeOf3
 v3:=Tryz.zeroValue3
 t4:=Tryz.underlying4
 a4:=Tryz.isAgg4
 z4:=Tryz.sizeOf4
 v4:=Tryz.zeroValue4
 t9:=Tryz.underlying9
 a9:=Tryz.isAgg9
 z9:=Tryz.sizeOf9
 v9:=Tryz.zeroValue9
 t20:=Tryz.underlying20
 a20:=Tryz.isAgg20
 z20:=Tryz.sizeOf20
 v20:=Tryz.zeroValue20
 t31:=Tryz.underlying59
 a31:=Tryz.isAgg59
 z31:=Tryz.sizeOf59
 v31:=Tryz.zeroValue59
 t37:=Tryz.underlying180
 a37:=Tryz.isAgg180
 z37:=Tryz.sizeOf180
 v37:=Tryz.zeroValue180
 t70:=Tryz.underlying188
 a70:=Tryz.isAgg188
 z70:=Tryz.sizeOf188
 v70:=Tryz.zeroValue188
 t72:=Tryz.underlying190
 a72:=Tryz.isAgg190
 z72:=Tryz.sizeOf190
 v72:=Tryz.zeroValue190
 t75:=Tryz.underlying192
 a75:=Tryz.isAgg192
 z75:=Tryz.sizeOf192
 v75:=Tryz.zeroValue192
 t76:=Tryz.underlying193
 a76:=Tryz.isAgg193
 z76:=Tryz.sizeOf193
 v76:=Tryz.zeroValue193
 t127:=Tryz.underlying205
 a127:=Tryz.isAgg205
 z127:=Tryz.sizeOf205
 v127:=Tryz.zeroValue205
 t164:=Tryz.underlying207
 a164:=Tryz.isAgg207
 z164:=Tryz.sizeOf207
 v164:=Tryz.zeroValue207}
theorem Tryz.Builder_Extra_156:Builder.Extra Tryz.prog Tryz.lays156_ren:={
 sizeBuilder:=by kernel_rfl
 liesBuilder:=by kernel_rfl
 t5:=Tryz.underlying5
 a5:=Tryz.isAgg5
 z5:=Tryz.sizeOf5
 v5:=Tryz.zeroValue5
 infoByte:=by kernel_rfl
 cellsByte:=by kernel_rfl
 sizeByte:=by kernel_rfl
 neB5:=by decide}
open Go.RowKit in
theorem Tryz.strings_Join_none (a:Option Addr) (c:Nat) (sep:ByteArray) (w:World):
 Calls Tryz.prog 147 #[.slice a 0 c,.string sep] w fun e w'=>e=.returned (.string ⟨#[]⟩)∧w'=w:=Any.strings_Join_none Tryz.lays156 Tryz.Builder_Extra_156 a c sep w
open Go.RowKit in
theorem Tryz.strings_Join (bk o c:Nat) (xs:List ByteArray) (sep:ByteArray) (w:World) (hcells:∀ (j:Nat) x,xs[j]? =some x→w.cell? ⟨bk,o+j,none⟩=some (.string x)) (hbk:bk<w.heap.size) (hN:xs.length≤140737488355328) (hcap:xs.length≤c) (hlen:(Lib.join (xs.map (·.data.toList)) sep.data.toList).length≤140737488355328):
 Calls Tryz.prog 147 #[.slice (some ⟨bk,o,none⟩) xs.length c,.string sep] w fun e w'=>e=.returned (.string ⟨(Lib.join (xs.map (·.data.toList)) sep.data.toList).toArray⟩)∧Below w.heap.size w w':=Any.strings_Join Tryz.lays156 Tryz.Builder_Extra_156 bk o c xs sep w hcells hbk hN hcap hlen
end Go.Proofs.YtphdhedhhlfepaaGreatDoor
namespace Go.Proofs.YtphdhedhhlfepaaGreatDoor
open Go Ab
set_option maxRecDepth 100000
set_option maxHeartbeats 1000000
theorem sjoin_c (l:List By) (sep:By) (hN:l.length≤140737488355328) (hlen:(Lib.join l sep).length≤140737488355328):FC Tryz.prog 147 [.s (strsF l),sV sep] 0 [] (sV (Lib.join l sep)) 0 []:=by
 refine FC.below (by kernel_rfl) fun φ xs w hx hg=>?_
 match xs,hx with
 |[a,b],⟨h1,h2,_⟩=>
  have h2:b=.string ⟨sep.toArray⟩:=h2;subst h2;have h1:Pr φ.z (strsF l) a:=h1;unfold strsF at h1;generalize hn:l.length=n at h1
  cases h1 with
  |nil _ _ ad k hk=>
   have hl:l=[]:=List.length_eq_zero_iff.1 hn;subst hl;refine (Tryz.strings_Join_none ad k ⟨sep.toArray⟩ w).mono ?_;rintro e w' ⟨rfl,rfl⟩;exact⟨_,rfl,fun _ _=>rfl,Go.RowKit.Below.refl _ _⟩
  |frz _ _ _ bk o k vs hz hle val hl hv hpx=>
   obtain⟨⟨ty,fr,hb⟩,_⟩:=hg.fz bk vs hz
   have hcell:∀ (j:Nat) x,(l.map fun s=>(⟨s.toArray⟩:ByteArray))[j]? =some x→w.cell? ⟨bk,o+j,none⟩=some (.string x):=by
    intro j x hj;rw[List.getElem?_map] at hj
    have hjl:j<l.length:=by
     rcases Nat.lt_or_ge j l.length with q|q
     ·exact q
     ·rw[List.getElem?_eq_none q] at hj;cases hj
    rw[List.getElem?_eq_getElem hjl] at hj;simp only[Option.map_some,Option.some.injEq] at hj;have e0:([S.str (l.getD j [])]:List S)[0]? =some (.str (l.getD j [])):=rfl;have h3:=hv j 0 _ (by omega) e0;have h4:=hpx j 0 _ (by omega) e0
    have h5:val j 0=.string ⟨(l.getD j []).toArray⟩:=by
     generalize val j 0=y at h4;cases h4;rfl
    rw[Nat.mul_one,Nat.add_zero,h5] at h3;simp only[World.cell?,hb,Option.isSome_none,Bool.false_eq_true,if_false,List.getElem?_toArray];rw[h3,←hj,List.getD_eq_getElem?_getD,List.getElem?_eq_getElem hjl];rfl
   have hmap:(l.map fun s=>(⟨s.toArray⟩:ByteArray)).map (·.data.toList)=l:=by rw[List.map_map];simp[Function.comp_def]
   have:=Tryz.strings_Join bk o k (l.map fun s=>(⟨s.toArray⟩:ByteArray)) ⟨sep.toArray⟩ w hcell (hg.fzlt hz) (by simpa using hN) (by simp;omega) (by rw[hmap];simpa using hlen);rw[hmap,List.length_map,hn] at this;refine this.mono ?_;rintro e w' ⟨rfl,hbl⟩;exact⟨_,rfl,fun _ _=>rfl,hbl⟩
theorem repeat0_c (s:By):FC Tryz.prog 146 [sV s,nI 0] 0 [] (sV []) 0 []:=by
 refine FC.walk (by kernel_rfl) Tryz.func146 rfl rfl ?_
 repeat'(first|exact y0|refine y1 ?_|refine y2 ?_ ?_|(refine y8 ?_ ?_<;>intro h<;>try exact y6)|refine Fin.str (.inl rfl) rfl rfl|refine y3 ?_|refine y7 ?_ ?_|refine y4 ?_|(refine y9 ?_ ?_<;>intro h)|exact y5|fail)
def fmtP (p:Pth):By:=if validP p then (if p.root then [92] else List.replicate p.up.toNat 94)++Lib.join p.segs [46] else []
theorem isSeg_len {s:By} (h:isSeg s=true):1≤s.length∧s.length≤4:=by
 unfold isSeg at h;simp only[Bool.and_eq_true,decide_eq_true_eq] at h;exact h.1
theorem join_le:∀ {l:List By},l.all isSeg=true→(Lib.join l [46]).length≤5*l.length
 |[],_=>by simp[Lib.join]
 |[x],h=>by
  simp only[List.all_cons,List.all_nil,Bool.and_true] at h;have:=isSeg_len h;simp[Lib.join];omega
 |x::y::l,h=>by
  have h1:isSeg x=true∧(y::l).all isSeg=true:=by simpa using h
  have:=isSeg_len h1.1;have ih:=join_le h1.2
  have e:Lib.join (x::y::l) [46]=x++46::Lib.join (y::l) [46]:=by simp[Lib.join,List.intercalate]
  rw[e];simp only[List.length_append,List.length_cons] at ih ⊢;omega
theorem fmt_u (up:Int) (segs:List By):FC Tryz.prog 100 [.agg [.bool true,.int .i64 up,strsF segs]] 0 [] (sV (fmtP ⟨true,up,segs⟩)) 0 []:=by
 have hv:=validP_u true up segs;refine FC.walk (by kernel_rfl) Tryz.func100 rfl rfl ?_
 cases h1:validP ⟨true,up,segs⟩<;>rw[h1] at hv
 ·
  repeat'(first|exact y0|refine y1 ?_|refine y2 ?_ ?_|(refine y8 ?_ ?_<;>intro h<;>try exact y6)|(refine wC ?_;first|refine wF 143 (bo hv ?_))|refine Fin.str (.inl rfl) rfl ?_|refine y3 ?_|refine y7 ?_ ?_|refine y4 ?_|(refine y9 ?_ ?_<;>intro h)|exact y5|fail)
  unfold fmtP;rw[h1];rfl
 ·
  obtain⟨v1,v2,v3,v4,v5,v6⟩:=valid_facts h1;simp only at v1 v2 v3 v4 v5 v6;have hu:=v4 trivial;subst hu;have hjl:=join_le v5;have hj:=sjoin_c segs [46] (by omega) (by omega);have hr:=repeat0_c [94]
  repeat'(first|exact y0|refine y1 ?_|refine y2 ?_ ?_|(refine y8 ?_ ?_<;>intro h<;>try exact y6)|(refine wC ?_;first|refine wF 143 (bo hv ?_)|refine wF 146 (pu hr ?_)|refine wF 147 (pu hj ?_))|refine Fin.str (.inl rfl) rfl ?_|refine y3 ?_|refine y7 ?_ ?_|refine y4 ?_|(refine y9 ?_ ?_<;>intro h)|exact y5|fail)
  ·show ((1+(Lib.join segs [46]).length:Nat):Int)≤9223372036854775807
   omega
  ·unfold fmtP;rw[h1];rfl
theorem fmt_c (p:Pth) (h:p.root=true):FC Tryz.prog 100 [ptV p] 0 [] (sV (fmtP p)) 0 []:=by
 obtain⟨r,u,s⟩:=p;simp only at h;subst h;exact fmt_u u s
theorem split_end {c:UInt8}:∀ {r:By},(∀ j,j<r.length→r.getD j 0≠c)→splitB c r=[r]
 |[],_=>rfl
 |b::l,h=>by
  have hb: ¬b=c:=by simpa using h 0 (by simp)
  have ih:=split_end (c:=c) (r:=l) fun j hj=>by simpa using h (j+1) (by simpa using hj)
  simp only[splitB,if_neg hb,ih]
theorem split_dot {c:UInt8}:∀ {r:By} {m:Nat},m<r.length→(∀ j,j<m→r.getD j 0≠c)→r.getD m 0=c→splitB c r=r.take m::splitB c (r.drop (m+1))
 |[],m,h,_,_=>by simp at h
 |b::l,0,_,_,h=>by
  have hb:b=c:=by simpa using h
  simp[splitB,if_pos hb]
 |b::l,m+1,hm,h,hc=>by
  have hb: ¬b=c:=by simpa using h 0 (by simp)
  have ih:=split_dot (c:=c) (r:=l) (m:=m) (by simpa using hm) (fun j hj=>by simpa using h (j+1) (by omega)) (by simpa using hc);simp only[splitB,if_neg hb,ih,List.take_succ_cons,List.drop_succ_cons]
theorem split_ne {c:UInt8} (s:By):splitB c s≠[]:=fun h=>by
 have:=splitB_len c s;rw[h] at this;simp at this
theorem join_cons {a:By} {l:List By} {c:By} (h:l≠[]):Lib.join (a::l) c=a++c++Lib.join l c:=by
 cases l with
 |nil=>exact absurd rfl h
 |cons b t=>simp[Lib.join,List.intercalate]
theorem join_one {a:By} {c:By}:Lib.join [a] c=a:=by simp[Lib.join,List.intercalate]
theorem join_nil {c:By}:Lib.join [] c=[]:=by simp[Lib.join,List.intercalate]
theorem join_split (c:UInt8):∀ s:By,Lib.join (splitB c s) [c]=s
 |[]=>join_one
 |b::l=>by
  have ih:=join_split c l;by_cases hb:b=c
  ·subst hb
   simp only[splitB,if_true];rw[join_cons (split_ne l),ih];rfl
  ·simp only[splitB,if_neg hb]
   cases e:splitB c l with
   |nil=>exact absurd e (split_ne l)
   |cons h t=>
    rw[e] at ih;simp only
    cases t with
    |nil=>rw[join_one] at ih ⊢;rw[ih]
    |cons h' t'=>
     rw[join_cons (by simp)] at ih ⊢;rw[←ih];simp
theorem join_snoc {c:By}:∀ {l:List By} {a:By},Lib.join (l++[a]) c=if l=[] then a else Lib.join l c++c++a
 |[],a=>join_one
 |b::l,a=>by
  rw[if_neg (by simp)]
  cases l with
  |nil=>
   show Lib.join (b::[a]) c=_;rw[join_cons (by simp),join_one,join_one]
  |cons d t=>
   rw[List.cons_append,join_cons (by simp),join_snoc,if_neg (by simp),join_cons (a:=b) (by simp)];simp only[List.append_assoc]
theorem finP_no {root:Bool} {u:Nat} {l:List By} (h:l.all isSeg=false):finP ⟨root,u,l⟩=(z0,false):=by
 unfold finP validP;simp only[h];simp
theorem finP_long {root:Bool} {u:Nat} {l:List By} (h:32<l.length):finP ⟨root,u,l⟩=(z0,false):=by
 unfold finP validP;rw[if_neg];simp only[Bool.and_eq_true,decide_eq_true_eq];omega
theorem tailP_eq (root:Bool) (u:Nat) (rest:By):tailP root u rest=if rest=[] then finP ⟨root,u,[]⟩ else if (splitB 46 rest).all isSeg then finP ⟨root,u,splitB 46 rest⟩ else (z0,false):=by
 unfold tailP
 by_cases h:rest=[]
 ·rw[if_pos h,if_pos h]
 ·rw[if_neg h,if_neg h]
  by_cases hc:32≤rest.count 46
  ·rw[if_pos hc]
   rw[finP_long (by rw[splitB_len];omega)]
   split<;>rfl
  ·rw[if_neg hc]
   cases ha:(splitB 46 rest).all isSeg with
   |true=>rfl
   |false=>rw[finP_no ha];rfl
theorem upsB_eq:∀ s:By,s=List.replicate (upsB s).1 94++(upsB s).2
 |[]=>rfl
 |b::l=>by
  unfold upsB;split
  ·rename_i h;subst h
   have:=upsB_eq l;simp only[List.replicate_succ,List.cons_append];rw[←this]
  ·rfl
theorem finP_ok {p q:Pth} (h:finP p=(q,true)):q=p∧validP p=true:=by
 unfold finP at h;split at h
 ·rename_i hv;cases h;exact⟨rfl,hv⟩
 ·cases h
theorem tail_ok {root:Bool} {u:Nat} {rest:By} {p:Pth} (h:tailP root u rest=(p,true)):p=⟨root,u,if rest=[] then [] else splitB 46 rest⟩∧validP p=true:=by
 rw[tailP_eq] at h;split at h
 ·rename_i hr
  obtain⟨rfl,hv⟩:=finP_ok h;rw[if_pos hr];exact⟨rfl,hv⟩
 ·rename_i hr
  split at h
  ·obtain⟨rfl,hv⟩:=finP_ok h
   rw[if_neg hr];exact⟨rfl,hv⟩
  ·cases h
theorem tail_fmt {root:Bool} {u:Nat} {rest:By} {p:Pth} (h:tailP root u rest=(p,true)) (hu:root=true→u=0):fmtP p=(if root then [92] else List.replicate u 94)++rest:=by
 obtain⟨rfl,hv⟩:=tail_ok h;unfold fmtP;rw[if_pos hv];simp only;congr 1
 by_cases hr:rest=[]
 ·rw[if_pos hr,hr,join_nil]
 ·rw[if_neg hr,join_split]
theorem cut92 (s:By):(cutPre s [92]=(s.drop 1,true)∧s=92::s.drop 1)∨(cutPre s [92]=(s,false)∧s.head? ≠some 92):=by
 unfold cutPre
 cases s with
 |nil=>exact .inr ⟨by simp[hasPre],by simp⟩
 |cons b l=>
  by_cases h:b=92
  ·subst h;exact .inl ⟨by simp[hasPre],rfl⟩
  ·refine .inr ⟨by simp[hasPre,h],by simpa using h⟩
theorem fmt_parse {s:By} {p:Pth} (h:parseP s=(p,true)):fmtP p=s:=by
 unfold parseP at h
 rcases cut92 s with ⟨e1,e2⟩|⟨e1,e2⟩
 ·rw[e1] at h
  simp only[if_true] at h;rw[tail_fmt h (fun _=>rfl)];exact e2.symm
 ·rw[e1] at h
  simp only[Bool.false_eq_true,if_false] at h;rw[tail_fmt h (fun e=>by cases e)];exact (upsB_eq s).symm
theorem parse_valid {s:By} {p:Pth} (h:parseP s=(p,true)):validP p=true:=by
 unfold parseP at h;split at h
 ·exact (tail_ok h).2
 ·exact (tail_ok h).2
theorem seg_byte {s:By} (h:isSeg s=true) {c:UInt8} (hc:c∈s):(65≤c.toNat∧c.toNat≤90)∨c.toNat=95∨(48≤c.toNat∧c.toNat≤57):=by
 unfold isSeg at h;simp only[Bool.and_eq_true,decide_eq_true_eq,List.all_eq_true,List.mem_range] at h;obtain⟨i,hi,rfl⟩:=List.mem_iff_getElem.1 hc;have:=h.2 i hi;rw[List.getD_eq_getElem?_getD,List.getElem?_eq_getElem hi] at this;unfold segCh segZ at this;simp only[Option.getD_some,decide_eq_true_eq] at this;omega
theorem split_seg {s:By} (h:isSeg s=true):splitB 46 s=[s]:=by
 refine split_end fun j hj e=>?_
 rw[List.getD_eq_getElem?_getD,List.getElem?_eq_getElem hj] at e;have:=seg_byte h (List.getElem_mem hj);simp only[Option.getD_some] at e;rw[e] at this
 revert this;decide
theorem parse_seg {s:By} (h:isSeg s=true):parseP s=(⟨false,0,[s]⟩,true):=by
 have hl:=isSeg_len h
 cases s with
 |nil=>simp at hl
 |cons b l=>
  have hb:=seg_byte h (List.mem_cons_self ..)
  have h92: ¬b=92:=fun e=>by subst e;revert hb;decide
  have h94: ¬b=94:=fun e=>by subst e;revert hb;decide
  have e1:cutPre (b::l) [92]=(b::l,false):=by simp[cutPre,hasPre,h92]
  unfold parseP;rw[e1];simp only[Bool.false_eq_true,if_false]
  have e2:upsB (b::l)=(0,b::l):=by simp[upsB,h94]
  rw[e2];simp only;rw[tailP_eq,if_neg (by simp),split_seg h];simp only[List.all_cons,h,List.all_nil,Bool.and_self,if_true];unfold finP validP;simp[h]
theorem sgl_seg {s:By} {p:Pth} (h:parseP s=(p,true)):sglP p=isSeg s:=by
 have hf:=fmt_parse h;have hv:=parse_valid h;obtain⟨root,up,segs⟩:=p
 cases hs:isSeg s with
 |true=>
  rw[parse_seg hs] at h;cases h;rfl
 |false=>
  rw[Bool.eq_false_iff];intro hp;unfold sglP at hp;simp only[Bool.and_eq_true,Bool.not_eq_true',decide_eq_true_eq] at hp;obtain⟨⟨rfl,rfl⟩,hl⟩:=hp;obtain⟨a,rfl⟩:∃ a,segs=[a]:=List.length_eq_one_iff.1 (by omega);have hall:=(valid_facts hv).2.2.2.2.1;simp only[List.all_cons,List.all_nil,Bool.and_true] at hall
  have:fmtP ⟨false,0,[a]⟩=a:=by
   unfold fmtP;rw[if_pos hv];simp[join_one]
  rw[this] at hf;subst hf;rw[hall] at hs;cases hs
set_option maxRecDepth 100000
set_option maxHeartbeats 1000000
theorem take_snoc {l:List By} {j:Nat} (h:j<l.length):l.take (j+1)=l.take j++[l.getD j []]:=by
 rw[List.take_add_one,List.getElem?_eq_getElem h,List.getD_eq_getElem?_getD,List.getElem?_eq_getElem h];rfl
theorem join_take_le {l:List By} (h:l.all isSeg=true) (j:Nat):(Lib.join (l.take j) [46]).length≤5*l.length:=by
 have h2:(l.take j).all isSeg=true:=by
  rw[List.all_eq_true] at h ⊢
  exact fun x hx=>h x (List.mem_of_mem_take hx)
 have:=join_le h2;rw[List.length_take] at this;omega
theorem seg_at_le {l:List By} (h:l.all isSeg=true) {j:Nat} (hj:j<l.length):(l.getD j []).length≤4:=by
 rw[List.all_eq_true] at h;rw[List.getD_eq_getElem?_getD,List.getElem?_eq_getElem hj];exact (isSeg_len (h _ (List.getElem_mem hj))).2
theorem fmtR_u (root:Bool) (up:Int) (segs:List By) (hs:∀ i,i<segs.length→(segs.getD i []).length<9223372036854775807):FC Tryz.prog 85 [.agg [.bool root,.int .i64 up,strsF segs]] 0 [] (sV (fmtP ⟨root,up,segs⟩)) 0 []:=by
 have hv:=validR_u root up segs hs;refine FC.walk (by kernel_rfl) Tryz.func85 rfl rfl ?_
 cases h1:validP ⟨root,up,segs⟩<;>rw[h1] at hv
 ·
  repeat'(first|exact y0|refine y1 ?_|refine y2 ?_ ?_|(refine y8 ?_ ?_<;>intro h<;>try exact y6)|(refine wC ?_;first|refine wF 129 (bo hv ?_))|refine Fin.str (.inl rfl) rfl ?_|refine y3 ?_|refine y7 ?_ ?_|refine y4 ?_|(refine y9 ?_ ?_<;>intro h)|exact y5|fail)
  unfold fmtP;rw[h1];rfl
 ·
  obtain⟨v1,v2,v3,v4,v5,v6⟩:=valid_facts h1;simp only at v1 v2 v3 v4 v5 v6;obtain⟨u,rfl⟩:=Int.eq_ofNat_of_zero_le v1
  have hpre:fmtP ⟨root,u,segs⟩=((if root then [92] else [])++List.replicate u 94)++Lib.join segs [46]:=by
   unfold fmtP;rw[if_pos h1];simp only;cases root
   ·simp
   ·have:=v4 rfl
    have hu:u=0:=by omega
    subst hu;simp
  rw[hpre];clear hpre
  obtain⟨pre,hpre⟩:∃ pre:By,pre=(if root then [92] else []):=⟨_,rfl⟩
  rw[←hpre]
  have hpl:pre.length≤1:=by rw[hpre];cases root<;>simp
  cases root
  all_goals
   repeat'(first|exact y0|refine y1 ?_|refine y2 ?_ ?_|(refine y8 ?_ ?_<;>intro h<;>try exact y6)|(refine wC ?_;first|refine wF 129 (bo hv ?_))|refine y3 ?_|refine y7 ?_ ?_|refine y4 ?_|(refine y9 ?_ ?_<;>intro h)|exact y5|fail)
   refine Ex.inv (σ:=Nat) (fun j=>[(4,nI j),(3,sV (pre++List.replicate j 94))]) (fun _=>[(0,some {cells:=[.bool _,.int .i64 (u:Int),strsF segs],ty:=92})]) (fun j=>j≤u) (fun j=>u-j) 0 rfl (fun _=>rfl) (Nat.zero_le _) ⟨VLe.refl _,VLe.of_eq (congrArg sV (by rw[hpre];rfl)),trivial⟩ ⟨rfl,trivial⟩ ?_;intro j hj;by_cases hlt:j<u
   ·
    repeat'(first|exact y0|refine y1 ?_|refine y2 ?_ ?_|(refine y8 ?_ ?_<;>intro h<;>try exact y6)|refine y3 ?_|refine y7 ?_ ?_|refine y4 ?_|(refine y9 ?_ ?_<;>intro h)|exact y5|fail)
    all_goals try first
     |exact i64_in (by omega) (by omega)
     |(simp only[List.length_append,List.length_replicate,List.length_cons,List.length_nil];omega)
    refine LoopR.same (j+1) (by omega) (by omega) rfl ⟨VLe.refl _,VLe.of_eq (congrArg sV ?_),trivial⟩ ⟨rfl,trivial⟩ rfl rfl (by decide);rw[List.replicate_succ',←List.append_assoc]
   ·
    obtain rfl:j=u:=by omega
    repeat'(first|exact y0|refine y1 ?_|refine y2 ?_ ?_|(refine y8 ?_ ?_<;>intro h<;>try exact y6)|refine y3 ?_|refine y7 ?_ ?_|refine y4 ?_|(refine y9 ?_ ?_<;>intro h)|exact y5|fail)
    refine Ex.inv (σ:=Nat) (fun i=>[(5,nI i),(3,sV ((pre++List.replicate j 94)++Lib.join (segs.take i) [46]))]) (fun _=>[(0,some {cells:=[.bool _,.int .i64 (j:Int),strsF segs],ty:=92})]) (fun i=>i≤segs.length) (fun i=>segs.length-i) 0 rfl (fun _=>rfl) (Nat.zero_le _) ⟨VLe.refl _,VLe.of_eq (congrArg sV (List.append_nil _).symm),trivial⟩ ⟨rfl,trivial⟩ ?_;intro i hi;have hjl:=join_take_le v5 i;by_cases hlt2:i<segs.length
    ·
     have hsg:=seg_at_le v5 hlt2;have htk:=join_snoc (c:=[46]) (l:=segs.take i) (a:=segs.getD i []);rw[←take_snoc hlt2] at htk;by_cases h0:i=0
     ·subst h0
      repeat'(first|exact y0|refine y1 ?_|refine y2 ?_ ?_|(refine y8 ?_ ?_<;>intro h<;>try exact y6)|refine y3 ?_|refine y7 ?_ ?_|refine y4 ?_|(refine y9 ?_ ?_<;>intro h)|exact y5|fail)
      all_goals try first
       |exact i64_in (by omega) (by omega)
       |(simp only[List.length_append,List.length_replicate,List.length_cons,List.length_nil];omega)
      refine LoopR.same 1 (by omega) (by omega) rfl ⟨VLe.refl _,VLe.of_eq (congrArg sV ?_),trivial⟩ ⟨rfl,trivial⟩ rfl rfl (by decide);rw[show segs.take 1=segs.take (0+1) from rfl,htk,if_pos (by simp),List.take_zero,join_nil,List.append_nil]
     ·
      have hne:segs.take i≠[]:=by
       intro e;have:=congrArg List.length e;rw[List.length_take,List.length_nil] at this;omega
      rw[if_neg hne] at htk
      repeat'(first|exact y0|refine y1 ?_|refine y2 ?_ ?_|(refine y8 ?_ ?_<;>intro h<;>try exact y6)|refine y3 ?_|refine y7 ?_ ?_|refine y4 ?_|(refine y9 ?_ ?_<;>intro h)|exact y5|fail)
      all_goals try first
       |exact i64_in (by omega) (by omega)
       |(simp only[List.length_append,List.length_replicate,List.length_cons,List.length_nil];omega)
      refine LoopR.same (i+1) (by omega) (by omega) rfl ⟨VLe.refl _,VLe.of_eq (congrArg sV ?_),trivial⟩ ⟨rfl,trivial⟩ rfl rfl (by decide);rw[htk];simp only[List.append_assoc]
    ·
     obtain rfl:i=segs.length:=by omega
     repeat'(first|exact y0|refine y1 ?_|refine y2 ?_ ?_|(refine y8 ?_ ?_<;>intro h<;>try exact y6)|refine Fin.str (.inl rfl) rfl ?_|refine y3 ?_|refine y7 ?_ ?_|refine y4 ?_|(refine y9 ?_ ?_<;>intro h)|exact y5|fail)
     all_goals (rw[List.take_length])
theorem fmtR_c (p:Pth) (hs:∀ i,i<p.segs.length→(p.segs.getD i []).length<9223372036854775807):FC Tryz.prog 85 [ptV p] 0 [] (sV (fmtP p)) 0 []:=fmtR_u p.root p.up p.segs hs
end Go.Proofs.YtphdhedhhlfepaaGreatDoor
