import Derived.Test.YtphdhedhhlfepaaGreatDoorCzB28
import Derived.Test.YtphdhedhhlfepaaGreatDoorCzB12
import Derived.Test.YtphdhedhhlfepaaGreatDoorCzB19
import Derived.Test.YtphdhedhhlfepaaGreatDoorCzB20
import Derived.Test.YtphdhedhhlfepaaGreatDoorCzB29
import Derived.Test.YtphdhedhhlfepaaGreatDoorCzB33
set_option linter.unusedSimpArgs false
set_option linter.unusedVariables false
namespace Go.Proofs.YtphdhedhhlfepaaGreatDoor
open Go Ab
set_option maxRecDepth 100000
theorem ctx_pa:∀ {t:Fo} {j i:Nat} {a:Inf},j≤i→i<j+t.size→i∈t.starts j∨∃ m:Nat,j≤m∧m<i∧(ctxF t j i a).pa=(m:Int)∧i∈(t.kid j m).starts (m+1)
 | .nil,j,i,a,h1,h2=>by simp only[Fo.size] at h2;omega
 | .cons x k n,j,i,a,h1,h2=>by
   simp only[Fo.size] at h2;simp only[Fo.starts,List.mem_cons];by_cases e:i=j
   ·exact .inl (.inl e)
   ·rcases Nat.lt_or_ge i (j+1+k.size) with h|h
    ·refine .inr ?_
     have e2:ctxF (.cons x k n) j i a=ctxF k (j+1) i (innI x (nameF k) j a):=by simp only[ctxF,if_neg e,if_pos h]
     rcases ctx_pa (t:=k) (j:=j+1) (i:=i) (a:=innI x (nameF k) j a) (by omega) (by omega) with hs|⟨m,m1,m2,m3,m4⟩
     ·refine⟨j,Nat.le_refl _,by omega,?_,?_⟩
      ·rw[e2,ctx_start hs];rfl
      ·simp only[Fo.kid,if_true];exact hs
     ·refine⟨m,by omega,m2,by rw[e2];exact m3,?_⟩
      simp only[Fo.kid,if_neg (show ¬m=j by omega),if_pos (show m<j+1+k.size by omega)];exact m4
    ·have h': ¬i<j+1+k.size:=by omega
     have e2:ctxF (.cons x k n) j i a=ctxF n (j+1+k.size) i a:=by simp only[ctxF,if_neg e,if_neg h']
     rcases ctx_pa (t:=n) (j:=j+1+k.size) (i:=i) (a:=a) (by omega) (by omega) with hs|⟨m,m1,m2,m3,m4⟩
     ·exact .inl (.inr hs)
     ·refine .inr ⟨m,by omega,m2,by rw[e2];exact m3,?_⟩
      simp only[Fo.kid,if_neg (show ¬m=j by omega),if_neg (show ¬m<j+1+k.size by omega)];exact m4
section
variable {p:List Nd} {t:Fo}
theorem ctx_kid (ha:t.At p 0) {i j:Nat} (hi:i<t.size) (h:j∈(t.kid 0 i).starts (i+1)):i<j∧j<t.size∧ctxT t j=innI (p.getD i dN) (nameF (t.kid 0 i)) i (ctxT t i):=by
 have hr:=starts_ge h;have hs:=kid_size (t:=t) (j:=0) (i:=i) (Nat.zero_le _) (by omega);refine⟨by omega,by omega,?_⟩;show ctxF t 0 j ini=_;rw[(kid_kid ha (Nat.zero_le i) (by omega) (by omega) (by omega) ini).2,ctx_start h]
theorem ctx_cases (ha:t.At p 0) {j:Nat} (hj:j<t.size):(j∈t.starts 0∧ctxT t j=ini)∨∃ m,m<j∧(ctxT t j).pa=(m:Int)∧j∈(t.kid 0 m).starts (m+1):=by
 rcases ctx_pa (t:=t) (j:=0) (i:=j) (a:=ini) (Nat.zero_le _) (by omega) with h|⟨m,_,h2,h3,h4⟩
 ·exact .inl ⟨h,ctx_start h⟩
 ·exact .inr ⟨m,h2,h3,h4⟩
theorem ctx_path (ha:t.At p 0) {j:Nat} (hj:j<t.size):(ctxT t j).path=[]:=by
 rcases ctx_cases ha hj with ⟨_,h2⟩|⟨m,h2,h3,h4⟩
 ·rw[h2];rfl
 ·rw[(ctx_kid ha (by omega) h4).2.2];rfl
def ownT (p:List Nd) (t:Fo) (i:Nat):Inf:=ownI (p.getD i dN) (nameF (t.kid 0 i)) (ctxT t i)
def infL (p:List Nd) (t:Fo):List Inf:=(List.range t.size).map (ownT p t)
def setK (T:List Inf) (ks:List Nat) (x:Inf):List Inf:=ks.foldl (fun T k=>T.set k x) T
end
set_option maxRecDepth 100000
set_option maxHeartbeats 1000000
end Go.Proofs.YtphdhedhhlfepaaGreatDoor
namespace Go.Proofs.YtphdhedhhlfepaaGreatDoor
namespace Ab
open Go
end Ab
end Go.Proofs.YtphdhedhhlfepaaGreatDoor
namespace Go.Proofs.YtphdhedhhlfepaaGreatDoor
open Go Ab
set_option maxRecDepth 100000
set_option maxHeartbeats 1000000
section
variable {p:List Nd} {t:Fo} {cs:List (Bool×Int)}
theorem absJ {b r:Pth} (h:(joinP b r).2=true):absP (joinP b r).1=true:=by
 unfold joinP at h ⊢;split
 ·simp_all
 ·rename_i h1
  have hb:absP b=true:=by cases hq:absP b<;>simp_all
  have hr:validP r=true:=by cases hq:validP r<;>simp_all
  obtain⟨b1,b2,b3⟩:=abs_facts hb;obtain⟨r1,r2,r3,r4,r5,r6⟩:=valid_facts hr;split
  ·rename_i hroot
   have:=r4 hroot;unfold absP validP;simp only[Bool.true_and,Bool.and_eq_true,decide_eq_true_eq,Bool.or_eq_true,Bool.not_eq_true',Bool.and_eq_false_imp];simp;exact⟨by omega,by simpa using r5⟩
  ·split
   ·simp_all
   ·rename_i h2 h3
    have hv:=hb;unfold absP at hv;simp only[Bool.and_eq_true] at hv;obtain⟨_,_,_,_,b5,_⟩:=valid_facts hv.2
    have:(b.segs.take ((b.segs.length:Int)-r.up).toNat++r.segs).all isSeg=true:=by
     rw[List.all_append,r5,Bool.and_true]
     exact List.all_eq_true.2 fun x hx=>List.all_eq_true.1 b5 x (List.mem_of_mem_take hx)
    unfold absP validP;simp only[Bool.true_and,this];simp;omega
end
set_option maxRecDepth 100000
set_option maxHeartbeats 1000000
set_option maxRecDepth 100000
set_option maxHeartbeats 1000000
def firstG (s:By):List Inf→Nat→Int
 |[],_=> -1
 |x::l,i=>if x.path=s then (i:Int) else firstG s l (i+1)
def firstR (L:List Inf) (s:By):Int:=firstG s L 0
set_option maxRecDepth 100000
set_option maxHeartbeats 2000000
set_option maxRecDepth 100000
set_option maxHeartbeats 1000000
section
variable {p:List Nd} {t:Fo} {cs:List (Bool×Int)}
def resR (L:List Inf):List Pth→Int
 |[]=> -1
 |c::l=>if 0≤firstR L (fmtP c) then firstR L (fmtP c) else resR L l
end
set_option maxRecDepth 100000
set_option maxRecDepth 100000
set_option maxHeartbeats 1000000
section
variable {p:List Nd} {t:Fo} {cs:List (Bool×Int)}
def resT (p:List Nd) (t:Fo) (i k:Nat):Int:=resR (infL p t) (candP (ctxT t i).sc (parseP (p.getD (i+1+k) dN).str).1)
def noRB (p:List Nd) (t:Fo) (i:Nat):Bool:=
 if (p.getD i dN).op=16 then decide (resT p t i 0<0)||decide ((p.getD (resT p t i 0).toNat dN).op≠15)
 else if (p.getD i dN).op=17 then decide (resT p t i 0<0)||decide ((p.getD (resT p t i 0).toNat dN).op≠18)||decide (resT p t i 1<0)||decide ((p.getD (resT p t i 1).toNat dN).op≠18)
 else false
end
set_option maxRecDepth 100000
def isDcl (op:Int):Bool:=decide (10≤op∧op≤21)
def stepT (p:List Nd) (t:Fo) (j:Nat) (a:Inf) (s:St) (i:Nat):St:=
 if isDcl (p.getD i dN).op then (headS (p.getD i dN) (nameF (t.kid j i)) i (ctxF t j i a).sc s).2 else s
theorem foldl_same {α β:Type} {f g:β→α→β}:∀ {l:List α} {s:β},(∀ i∈l,∀ s,f s i=g s i)→l.foldl f s=l.foldl g s
 |[],_,_=>rfl
 |i::l,s,h=>by
  simp only[List.foldl_cons];rw[h i (List.mem_cons_self ..),foldl_same fun j hj=>h j (List.mem_cons_of_mem _ hj)]
theorem fold_id {α β:Type} {f:β→α→β}:∀ {l:List α} {s:β},(∀ i∈l,∀ s,f s i=s)→l.foldl f s=s
 |[],_,_=>rfl
 |i::l,s,h=>by
  simp only[List.foldl_cons];rw[h i (List.mem_cons_self ..),fold_id fun j hj=>h j (List.mem_cons_of_mem _ hj)]
section
variable {p:List Nd}
theorem fold_cons {x:Nd} {k n:Fo} {j:Nat} (ha:(Fo.cons x k n).At p j) (a:Inf) (s:St):
 (List.range' j (Fo.cons x k n).size).foldl (stepT p (.cons x k n) j a) s=
   (List.range' (j+1+k.size) n.size).foldl (stepT p n (j+1+k.size) a) ((List.range' (j+1) k.size).foldl (stepT p k (j+1) (innI x (nameF k) j a)) (stepT p (.cons x k n) j a s j)):=by
 have e:List.range' j (Fo.cons x k n).size=j::(List.range' (j+1) k.size++List.range' (j+1+k.size) n.size):=by
  simp only[Fo.size];rw[show 1+k.size+n.size=(k.size+n.size)+1 by omega,List.range'_succ,List.range'_append_1]
 rw[e,List.foldl_cons,List.foldl_append];rw[foldl_same (f:=stepT p (.cons x k n) j a) (g:=stepT p k (j+1) (innI x (nameF k) j a)) (l:=List.range' (j+1) k.size)]
 ·refine foldl_same fun i hi s=>?_
  have:=List.mem_range'_1.1 hi;unfold stepT
  have h1: ¬i=j:=by omega
  have h2: ¬i<j+1+k.size:=by omega
  simp only[Fo.kid,ctxF,if_neg h1,if_neg h2]
 ·intro i hi s
  have:=List.mem_range'_1.1 hi;unfold stepT
  have h1: ¬i=j:=by omega
  have h2:i<j+1+k.size:=by omega
  simp only[Fo.kid,ctxF,if_neg h1,if_pos h2]
theorem fold_quiet {t:Fo} {j:Nat} (ha:t.At p j) (hq:t.all quiet) (a:Inf) (s:St):(List.range' j t.size).foldl (stepT p t j a) s=s:=by
 refine fold_id fun i hi s=>?_
 have:=List.mem_range'_1.1 hi;have hx:=Fo.all_at ha hq (by omega:j≤i) (by omega);unfold stepT isDcl;rw[if_neg];unfold quiet at hx;simp only[decide_eq_true_eq];omega
theorem head_sc {x:Nd} {nm:Pth} {i:Nat} {a:Inf} {s:St}:(headS x nm i a.sc s).1=(innI x nm i a).sc:=by
 unfold headS innI;simp only;by_cases h10:x.op=10
 ·rw[if_pos h10]
  cases h:(joinP a.sc nm).2<;>simp[h10]
 ·rw[if_neg h10]
  by_cases h2:x.op=11∨x.op=12
  ·rw[if_neg (show ¬(x.op=16∨x.op=17∨x.op=19) by omega)]
   cases h:(joinP a.sc nm).2<;>simp[h10,h2]
  ·rw[if_neg (show ¬((x.op=10∨x.op=11∨x.op=12)∧(joinP a.sc nm).2=true) from fun q=>by omega)]
   split
   ·rfl
   ·split
    ·simp[h2]
    ·rfl
theorem dcl_quiet {op kids c:Int} (h:accB c op=true) (hc:c=68∨c=70) (hb:hasBl op=false):∀ b∈(kindsB op kids).1,qK (b.toNat:Int)=true:=by
 unfold hasBl at hb;simp only[decide_eq_false_iff_not] at hb
 have:op=13∨op=14∨op=15∨op=18∨op=19∨op=20∨op=21:=by
  rcases decl_op hc h with e|e|e|e|e|e|e|e|e|e|e|e<;>omega
 rcases this with e|e|e|e|e|e|e<;>rw[e]
 ·exact fun b hb=>(by decide:∀ b∈(kindsB 13 0).1,qK (b.toNat:Int)=true) b hb
 ·exact fun b hb=>(by decide:∀ b∈(kindsB 14 0).1,qK (b.toNat:Int)=true) b hb
 ·exact fun b hb=>(by decide:∀ b∈(kindsB 15 0).1,qK (b.toNat:Int)=true) b hb
 ·exact fun b hb=>(by decide:∀ b∈(kindsB 18 0).1,qK (b.toNat:Int)=true) b hb
 ·exact fun b hb=>(by decide:∀ b∈(kindsB 19 0).1,qK (b.toNat:Int)=true) b hb
 ·exact fun b hb=>(by decide:∀ b∈(kindsB 20 0).1,qK (b.toNat:Int)=true) b hb
 ·exact fun b hb=>(by decide:∀ b∈(kindsB 21 0).1,qK (b.toNat:Int)=true) b hb
theorem fold_args {c':Int}:∀ (ls:List Int) (t:Fo) (j:Nat) (a:Inf) (s:St),ls.all leafK=true→t.At p j→t.V (ls.map (fun c=>(false,c))++[(true,c')])→
 (∀ (bl:Fo) (i:Nat) (s:St) (b:Inf),bl.At p i→bl.V (List.replicate bl.cnt (false,c'))→b.sc=a.sc→bl.size<t.size→declS false bl i a.sc s=(List.range' i bl.size).foldl (stepT p bl i b) s)→
 declS true t j a.sc s=(List.range' j t.size).foldl (stepT p t j a) s
 |[],t,j,a,s,_,ha,hv,ih=>by
  obtain⟨y,bl,n,rfl,h1,h2,h3⟩:=V_blk hv;have:=V_nil h1;subst this;rw[fold_cons ha]
  have hst:stepT p (.cons y bl .nil) j a s j=s:=by
   unfold stepT isDcl;rw[At.get ha,h2,if_neg (by decide)]
  rw[hst]
  have hsc:(innI y (nameF bl) j a).sc=a.sc:=by
   unfold innI;simp only;rw[if_neg (fun q=>by have:=q.1;omega)]
  have:=ih bl (j+1) s (innI y (nameF bl) j a) ha.2.2.1 h3 hsc (by simp only[Fo.size];omega);simp only[declS,h2,if_true,Fo.size,List.range'_zero,List.foldl_nil];exact this
 |c::ls,t,j,a,s,hl,ha,hv,ih=>by
  simp only[List.all_cons,Bool.and_eq_true] at hl;obtain⟨y,n,rfl,h1,hop⟩:=V_leaf hl.1 hv;rw[fold_cons ha]
  have hst:stepT p (.cons y .nil n) j a s j=s:=by
   unfold stepT isDcl;rw[At.get ha,if_neg];simp only[decide_eq_true_eq];omega
  rw[hst]
  have: ¬y.op=4:=by omega
  simp only[declS,if_neg this,Fo.size,Nat.add_zero,List.range'_zero,List.foldl_nil]
  have hn:n.At p (j+1):=by have:=ha.2.2.2;simpa [Fo.size] using this
  exact fold_args ls n (j+1) a s hl.2 hn h1 (fun bl i s b g1 g2 g3 g4=>ih bl i s b g1 g2 g3 (by simp only[Fo.size];omega))
theorem declS_fold:∀ (N:Nat) (t:Fo) (c:Int) (j:Nat) (a:Inf) (s:St),t.size<N→(c=68∨c=70)→t.At p j→t.V (List.replicate t.cnt (false,c))→declS false t j a.sc s=(List.range' j t.size).foldl (stepT p t j a) s
 |0,_,_,_,_,_,h,_,_,_=>absurd h (Nat.not_lt_zero _)
 |N+1,.nil,_,_,_,_,_,_,_,_=>rfl
 |N+1,.cons x k n,c,j,a,s,hN,hc,ha,hv=>by
  simp only[Fo.size] at hN;have hv':=hv;simp only[Fo.cnt,List.replicate_succ] at hv';obtain⟨⟨h1,h2,h3⟩,h4,h5⟩:=hv';rw[fold_cons ha];simp only[declS];have hd:=decl_op hc h1
  have hst:stepT p (.cons x k n) j a s j=(headS x (nameF k) j a.sc s).2:=by
   unfold stepT isDcl;rw[At.get ha,if_pos (by simp only[decide_eq_true_eq];omega)];simp only[Fo.kid,ctxF,if_true]
  rw[hst]
  have hk:(if hasBl x.op then declS true k (j+1) (headS x (nameF k) j a.sc s).1 (headS x (nameF k) j a.sc s).2 else (headS x (nameF k) j a.sc s).2)=(List.range' (j+1) k.size).foldl (stepT p k (j+1) (innI x (nameF k) j a)) (headS x (nameF k) j a.sc s).2:=by
   cases hb:hasBl x.op
   ·simp only[Bool.false_eq_true,if_false]
    rw[fold_quiet ha.2.2.1]
    refine V_quiet h4 fun sl hsl=>?_
    obtain⟨b,hb',rfl⟩:=List.mem_map.1 hsl;exact dcl_quiet h1 hc hb b hb'
   ·simp only[if_true]
    rw[head_sc]
    have ih:∀ (c':Int),(c'=68∨c'=70)→∀ (bl:Fo) (i:Nat) (s:St) (b:Inf),bl.At p i→bl.V (List.replicate bl.cnt (false,c'))→b.sc=(innI x (nameF k) j a).sc→bl.size<k.size→declS false bl i (innI x (nameF k) j a).sc s=(List.range' i bl.size).foldl (stepT p bl i b) s:=fun c' hc' bl i s b g1 g2 g3 g4=>by
     rw[←g3];exact declS_fold N bl c' i b s (by omega) hc' g1 g2
    unfold hasBl at hb;simp only[decide_eq_true_eq] at hb
    rcases hb with e|e|e|e|e<;>rw[e] at h4
    ·exact fold_args (c':=68) [110] k (j+1) _ _ rfl ha.2.2.1 h4 (ih 68 (.inl rfl))
    ·exact fold_args (c':=68) [115] k (j+1) _ _ rfl ha.2.2.1 h4 (ih 68 (.inl rfl))
    ·exact fold_args (c':=68) [115,105,105] k (j+1) _ _ rfl ha.2.2.1 h4 (ih 68 (.inl rfl))
    ·exact fold_args (c':=70) [110,105,105] k (j+1) _ _ rfl ha.2.2.1 h4 (ih 70 (.inr rfl))
    ·exact fold_args (c':=70) [110,110,105,105] k (j+1) _ _ rfl ha.2.2.1 h4 (ih 70 (.inr rfl))
  rw[hk];exact declS_fold N n c (j+1+k.size) a _ (by omega) hc ha.2.2.2 h5
end
section
variable {p:List Nd} {t:Fo}
def stepG (p:List Nd) (t:Fo) (s:St) (i:Nat):St:=if isDcl (p.getD i dN).op then (headS (p.getD i dN) (nameF (t.kid 0 i)) i (ctxT t i).sc s).2 else s
theorem anS_fold (ha:t.At p 0) (hv:t.V (List.replicate t.cnt (false,68))):anS p t=(List.range t.size).foldl (stepG p t) (st0 p):=by
 have:=declS_fold (p:=p) (t.size+1) t 68 0 ini (st0 p) (Nat.lt_succ_self _) (.inl rfl) ha hv;rw[List.range_eq_range'];exact this
def okJ (p:List Nd) (t:Fo) (i:Nat):Bool:=(joinP (ctxT t i).sc (nameF (t.kid 0 i))).2
def pathT (p:List Nd) (t:Fo) (i:Nat):By:=(ownT p t i).path
theorem fmt_ne {q:Pth} (h:absP q=true):fmtP q≠[]:=by
 unfold absP at h;simp only[Bool.and_eq_true] at h;unfold fmtP;rw[if_pos h.2,if_pos h.1];simp
theorem pathT_eq (ha:t.At p 0) {i:Nat} (hi:i<t.size):pathT p t i=if declB (p.getD i dN).op=true∧okJ p t i=true then fmtP (joinP (ctxT t i).sc (nameF (t.kid 0 i))).1 else []:=by
 unfold pathT ownT ownI okJ;split
 ·rfl
 ·exact ctx_path ha hi
theorem pathT_ne (ha:t.At p 0) {i:Nat} (hi:i<t.size):pathT p t i≠[]↔declB (p.getD i dN).op=true∧okJ p t i=true:=by
 rw[pathT_eq ha hi];split
 ·rename_i h
  exact⟨fun _=>h,fun _=>fmt_ne (absJ h.2)⟩
 ·rename_i h
  exact⟨fun q=>absurd rfl q,fun q=>absurd q h⟩
def dclE (p:List Nd) (t:Fo) (i:Nat):List Dc:=if pathT p t i=[] then [] else [⟨pathT p t i,(p.getD i dN).op,i⟩]
def badN (p:List Nd) (t:Fo) (i:Nat):Bool:=(declB (p.getD i dN).op||decide ((p.getD i dN).op=10))&& !okJ p t i
theorem step_eq (ha:t.At p 0) {i:Nat} (hi:i<t.size) (s:St):(stepG p t s i).D=s.D++dclE p t i∧(stepG p t s i).F=(if pathT p t i=[] then s.F else decF s.F (pathT p t i) i)∧
 (stepG p t s i).G=(if badN p t i then s.G++[(i,2)] else if pathT p t i=[] then s.G else decG s.F s.G (pathT p t i) i)∧(stepG p t s i).S=if isDcl (p.getD i dN).op then s.S.set i (ctxT t i).sc else s.S:=by
 have hne:=pathT_ne ha hi;have heq:=pathT_eq ha hi;unfold dclE badN;generalize hP:pathT p t i=P at*;unfold stepG okJ at*;unfold isDcl declB at*;generalize (p.getD i dN)=x at*;generalize nameF (t.kid 0 i)=nm at*;generalize (ctxT t i).sc=sc at*;by_cases hd:10≤x.op∧x.op≤21
 ·rw[decide_eq_true hd]
  simp only[if_true];unfold headS;by_cases h10:x.op=10
  ·rw[if_pos h10]
   rw[if_neg (fun h=>by have:=h.1;simp only[decide_eq_true_eq] at this;omega)] at heq;subst heq
   cases hj:(joinP sc nm).2<;>simp[h10,St.sc,St.rep]
  ·rw[if_neg h10]
   by_cases h16:x.op=16∨x.op=17∨x.op=19
   ·rw[if_pos h16]
    rw[if_neg (fun h=>by have:=h.1;simp only[decide_eq_true_eq] at this;omega)] at heq;subst heq;have hdf:decide (11≤x.op∧x.op≤15∨x.op=18∨x.op=20∨x.op=21)=false:=decide_eq_false (by omega);simp[h10,hdf,St.sc]
   ·rw[if_neg h16]
    have hdt:decide (11≤x.op∧x.op≤15∨x.op=18∨x.op=20∨x.op=21)=true:=decide_eq_true (by omega);rw[hdt] at heq hne ⊢;cases hj:(joinP sc nm).2
    ·rw[if_neg (by rw[hj];simp)] at heq
     subst heq;simp[St.sc,St.rep]
    ·rw[if_pos ⟨rfl,hj⟩] at heq
     have hn:P≠[]:=hne.2 ⟨rfl,hj⟩;rw[if_neg hn,if_neg hn,if_neg hn];simp[St.sc,St.dec,heq]
 ·rw[decide_eq_false hd]
  have hdf:decide (11≤x.op∧x.op≤15∨x.op=18∨x.op=20∨x.op=21)=false:=decide_eq_false (by omega);rw[hdf] at heq hne ⊢;rw[if_neg (fun h=>by cases h.1)] at heq;subst heq
  have h10: ¬x.op=10:=by omega
  simp[h10]
def stAt (p:List Nd) (t:Fo) (m:Nat):St:=(List.range m).foldl (stepG p t) (st0 p)
theorem stAt_succ (m:Nat):stAt p t (m+1)=stepG p t (stAt p t m) m:=by
 unfold stAt;rw[List.range_succ,List.foldl_append];rfl
theorem stAt_D (ha:t.At p 0):∀ {m:Nat},m≤t.size→(stAt p t m).D=(List.range m).flatMap (dclE p t)
 |0,_=>rfl
 |m+1,h=>by
  rw[stAt_succ,(step_eq ha (by omega) _).1,stAt_D ha (by omega),List.range_succ,List.flatMap_append];simp
def firstN (p:List Nd) (t:Fo) (path:By):Nat→Option Nat
 |0=>none
 |m+1=>match firstN p t path m with|some i=>some i|none=>if pathT p t m=path then some m else none
theorem lkF_snoc (F:List (By×Nat)) (k path:By) (i:Nat):lkF (F++[(k,i)]) path=match lkF F path with|some v=>some v|none=>if k=path then some i else none:=by
 induction F with
 |nil=>simp only[List.nil_append,lkF]
 |cons a F ih=>
  obtain⟨q,v⟩:=a;simp only[List.cons_append,lkF];split
  ·rfl
  ·exact ih
theorem stAt_F (ha:t.At p 0) {path:By} (hp:path≠[]):∀ {m:Nat},m≤t.size→lkF (stAt p t m).F path=firstN p t path m
 |0,_=>rfl
 |m+1,h=>by
  have ih:=stAt_F ha hp (m:=m) (by omega);rw[stAt_succ,(step_eq ha (by omega) _).2.1];simp only[firstN]
  by_cases he:pathT p t m=[]
  ·rw[if_pos he,ih]
   cases firstN p t path m with
   |some v=>rfl
   |none=>simp only;rw[if_neg (fun q=>hp (by rw[←q,he]))]
  ·rw[if_neg he]
   unfold decF;split
   ·rename_i v hv
    rw[ih]
    cases hf:firstN p t path m with
    |some v=>rfl
    |none=>
     simp only;rw[if_neg];intro q;rw[q,ih,hf] at hv;cases hv
   ·rw[lkF_snoc,ih]
theorem firstN_some {path:By}:∀ {m i:Nat},firstN p t path m=some i→i<m∧pathT p t i=path∧∀ k,k<i→pathT p t k≠path
 |0,_,h=>by cases h
 |m+1,i,h=>by
  simp only[firstN] at h;split at h
  ·rename_i v hv
   cases h;have:=firstN_some hv;exact⟨by omega,this.2⟩
  ·rename_i hn
   split at h
   ·rename_i he
    cases h;refine⟨Nat.lt_succ_self _,he,fun k hk hc=>?_⟩
    have:∀ m,firstN p t path m=none→∀ k,k<m→pathT p t k≠path:=by
     intro m
     induction m with
     |zero=>intro _ k hk;omega
     |succ m ih=>
      intro h k hk;simp only[firstN] at h;split at h
      ·cases h
      ·rename_i h0
       split at h
       ·cases h
       ·rename_i h1
        rcases Nat.lt_or_ge k m with q|q
        ·exact ih h0 k q
        ·rw[show k=m by omega];exact h1
    exact this m hn k hk hc
   ·cases h
theorem firstN_none {path:By}:∀ {m:Nat},firstN p t path m=none→∀ k,k<m→pathT p t k≠path
 |0,_,k,hk=>by omega
 |m+1,h,k,hk=>by
  simp only[firstN] at h;split at h
  ·cases h
  ·rename_i h0
   split at h
   ·cases h
   ·rename_i h1
    rcases Nat.lt_or_ge k m with q|q
    ·exact firstN_none h0 k q
    ·rw[show k=m by omega];exact h1
def dupN (p:List Nd) (t:Fo) (i:Nat):Bool:=decide (pathT p t i≠[])&&(firstN p t (pathT p t i) i).isSome
def dclG (p:List Nd) (t:Fo) (i:Nat):List (Nat×Nat):=if badN p t i then [(i,2)] else if dupN p t i then [(i,3)] else []
theorem bad_path (ha:t.At p 0) {i:Nat} (hi:i<t.size) (h:badN p t i=true):pathT p t i=[]:=by
 rw[pathT_eq ha hi,if_neg];unfold badN at h;simp only[Bool.and_eq_true,Bool.not_eq_true'] at h;rintro⟨_,h2⟩;rw[h.2] at h2;cases h2
theorem stAt_G (ha:t.At p 0):∀ {m:Nat},m≤t.size→(stAt p t m).G=(List.range m).flatMap (dclG p t)
 |0,_=>rfl
 |m+1,h=>by
  have ih:=stAt_G ha (m:=m) (by omega);rw[stAt_succ,(step_eq ha (by omega) _).2.2.1,List.range_succ,List.flatMap_append,←ih];simp only[List.flatMap_cons,List.flatMap_nil,List.append_nil];unfold dclG;split
  ·rfl
  ·unfold dupN
   by_cases he:pathT p t m=[]
   ·rw[if_pos he];simp[he]
   ·rw[if_neg he]
    unfold decG;rw[stAt_F ha he (by omega)]
    cases hf:firstN p t (pathT p t m) m<;>simp[he]
end
set_option maxRecDepth 100000
section
variable {p:List Nd} {t:Fo}
theorem firstN_iff {path:By} {m:Nat}:(firstN p t path m).isSome=true↔∃ k,k<m∧pathT p t k=path:=by
 cases h:firstN p t path m with
 |none=>exact⟨fun q=>(by cases q),fun⟨k,h1,h2⟩=>absurd h2 (firstN_none h k h1)⟩
 |some i=>exact⟨fun _=>⟨i,(firstN_some h).1,(firstN_some h).2.1⟩,fun _=>rfl⟩
def bitsR (p:List Nd):List Nat→Nat→Int→Option Int
 |[],_,_=>none
 |k::l,i,bit=>if k=i then some bit else if oorB p k then none else bitsR p l i (bit+if (p.getD k dN).op=19 then numN p (k+1) else numN p (k+2))
def fldN (t:Fo) (i:Nat):Nat:=(ctxT t (ctxT t i).pa.toNat).pa.toNat
def ovrB (p:List Nd) (i:Nat) (len w:Int) (b:Option Int):Bool:=match b with|none=>false|some bit=>decide (8*len<((bit+numN p (i+2)-1).tdiv (8*w)+1)*(8*w))
def outB (p:List Nd) (t:Fo) (i:Nat):Bool:=
 if (p.getD i dN).op=18∧(p.getD (fldN t i) dN).op=16∧noRB p t (fldN t i)=false∧oorB p (fldN t i)=false∧oorB p i=false∧oorB p (resT p t (fldN t i) 0).toNat=false then
  ovrB p i (numN p ((resT p t (fldN t i) 0).toNat+4)) (numN p (fldN t i+2)) (bitsR p ((t.kid 0 (ctxT t i).pa.toNat).starts ((ctxT t i).pa.toNat+1)) i 0)
 else false
end
set_option maxRecDepth 100000
section
variable {p:List Nd} {t:Fo}
theorem anS_at (ha:t.At p 0) (hv:t.V (List.replicate t.cnt (false,68))):anS p t=stAt p t t.size:=anS_fold ha hv
def dclN (p:List Nd) (t:Fo) (i:Nat):Dc:=⟨pathT p t i,(p.getD i dN).op,i⟩
def dclI (p:List Nd) (t:Fo):List Nat:=(List.range t.size).filter fun i=>decide (pathT p t i≠[])
theorem flat_filter {α:Type} {q:Nat→Bool} {f:Nat→α}:∀ l:List Nat,l.flatMap (fun i=>if q i then [f i] else [])=(l.filter q).map f
 |[]=>rfl
 |a::l=>by
  rw[List.flatMap_cons,flat_filter l]
  cases h:q a<;>simp[List.filter,h]
theorem D_eq (ha:t.At p 0) (hv:t.V (List.replicate t.cnt (false,68))):(anS p t).D=(dclI p t).map (dclN p t):=by
 rw[anS_at ha hv,stAt_D ha (Nat.le_refl _),dclI,←flat_filter];congr 1
 funext i
 unfold dclE dclN
 by_cases h:pathT p t i=[]<;>simp[h]
theorem dclI_pw:(dclI p t).Pairwise (·<·):=List.Pairwise.filter _ List.pairwise_lt_range
theorem mem_dclI {i:Nat}:i∈dclI p t↔i<t.size∧pathT p t i≠[]:=by simp[dclI]
theorem dup_mem (ha:t.At p 0) (hv:t.V (List.replicate t.cnt (false,68))) (hs:t.size=p.length) {i:Nat} (hi:i<t.size):(i,3)∈allG p t↔dupN p t i=true:=by
 unfold allG;rw[rowG_app,List.mem_append,anS_at ha hv,stAt_G ha (Nat.le_refl _)];constructor
 ·rintro (h|h)
  ·obtain⟨k,hk,h1⟩:=List.mem_flatMap.1 h
   unfold dclG at h1;split at h1
   ·simp at h1
   ·split at h1
    ·rename_i h2
     simp only[List.mem_singleton,Prod.mk.injEq,and_true] at h1;rw[h1];exact h2
    ·cases h1
  ·obtain⟨k,hk,h1⟩:=List.mem_flatMap.1 h
   have hk':=List.mem_range'_1.1 hk;have:=((nodeE_own ha hv _ _ (i:=k) (by omega)).2 _ h1).1;simp only at this;omega
 ·intro h
  left;refine List.mem_flatMap.2 ⟨i,List.mem_range.2 hi,?_⟩;unfold dclG
  have hb:badN p t i=false:=by
   cases hb:badN p t i with
   |false=>rfl
   |true=>
    have:=bad_path ha hi hb;unfold dupN at h;rw[this] at h;simp at h
  rw[hb,if_pos h];simp
def isDup (G:Dgs) (d:Dc) (n:Nat):Bool:=(List.range n).any fun k=>decide (G.getD k (0,0)=(d.node,3))
def isTwc (D:List Dc) (i n:Nat):Bool:=(List.range n).any fun k=>decide ((D.getD k dD).path=(D.getD i dD).path)
theorem uniq_law (ha:t.At p 0) (hv:t.V (List.replicate t.cnt (false,68))) (hs:t.size=p.length) {i:Nat} (hi:i<(anS p t).D.length):
 isTwc (anS p t).D i i=isDup (srtD (allG p t)) ((anS p t).D.getD i dD) (srtD (allG p t)).length:=by
 rw[D_eq ha hv] at hi ⊢
 have hi':i<(dclI p t).length:=by simpa using hi
 have hget:∀ k,k<(dclI p t).length→((dclI p t).map (dclN p t)).getD k dD=dclN p t ((dclI p t).getD k 0):=fun k hk=>by
  rw[List.getD_eq_getElem?_getD,List.getD_eq_getElem?_getD,List.getElem?_map,List.getElem?_eq_getElem hk];rfl
 have hmem:∀ k,k<(dclI p t).length→(dclI p t).getD k 0∈dclI p t:=fun k hk=>by
  rw[List.getD_eq_getElem?_getD,List.getElem?_eq_getElem hk];exact List.getElem_mem _
 rw[hget i hi'];obtain⟨n1,n2⟩:=mem_dclI.1 (hmem i hi')
 have hdup:isDup (srtD (allG p t)) (dclN p t ((dclI p t).getD i 0)) (srtD (allG p t)).length=true↔((dclI p t).getD i 0,3)∈allG p t:=by
  rw[←(srtD_perm (allG p t)).mem_iff];unfold isDup;rw[List.any_eq_true];constructor
  ·rintro⟨k,h1,h2⟩
   rw[List.mem_range] at h1;have h3:=of_decide_eq_true h2;rw[List.getD_eq_getElem?_getD,List.getElem?_eq_getElem h1] at h3;rw[show ((dclI p t).getD i 0,3)=(srtD (allG p t))[k] from h3.symm];exact List.getElem_mem _
  ·intro h
   obtain⟨k,h1,h2⟩:=List.mem_iff_getElem.1 h;refine⟨k,List.mem_range.2 h1,decide_eq_true ?_⟩;rw[List.getD_eq_getElem?_getD,List.getElem?_eq_getElem h1];exact h2
 rw[Bool.eq_iff_iff,hdup,dup_mem ha hv hs n1];unfold dupN isTwc;rw[decide_eq_true n2,Bool.true_and,firstN_iff,List.any_eq_true];constructor
 ·rintro⟨k,h1,h2⟩
  rw[List.mem_range] at h1;have h3:=of_decide_eq_true h2;rw[hget k (by omega),hget i hi'] at h3;have hlt:=List.pairwise_iff_getElem.1 (dclI_pw (p:=p) (t:=t)) k i (by omega) hi' h1;refine⟨(dclI p t).getD k 0,?_,h3⟩;rw[List.getD_eq_getElem?_getD,List.getD_eq_getElem?_getD,List.getElem?_eq_getElem hi',List.getElem?_eq_getElem (by omega:k<(dclI p t).length)];exact hlt
 ·rintro⟨m,h1,h2⟩
  have hm':m∈dclI p t:=mem_dclI.2 ⟨by omega,by rw[h2];exact n2⟩;obtain⟨k,k1,k2⟩:=List.mem_iff_getElem.1 hm'
  have hk:(dclI p t).getD k 0=m:=by rw[List.getD_eq_getElem?_getD,List.getElem?_eq_getElem k1];exact k2
  have hki:k<i:=by
   rcases Nat.lt_trichotomy k i with h|h|h
   ·exact h
   ·subst h;omega
   ·have hlt:=List.pairwise_iff_getElem.1 (dclI_pw (p:=p) (t:=t)) i k hi' k1 h
    rw[List.getD_eq_getElem?_getD,List.getElem?_eq_getElem hi'] at h1;simp only[Option.getD_some] at h1;omega
  refine⟨k,List.mem_range.2 hki,decide_eq_true ?_⟩;rw[hget k k1,hget i hi',hk];exact h2
theorem isTwc_succ (D:List Dc) (i n:Nat):isTwc D i (n+1)=(isTwc D i n||decide ((D.getD n dD).path=(D.getD i dD).path)):=by
 unfold isTwc;rw[List.range_succ,List.any_append];simp
theorem isDup_succ (G:Dgs) (d:Dc) (n:Nat):isDup G d (n+1)=(isDup G d n||decide (G.getD n (0,0)=(d.node,3))):=by
 unfold isDup;rw[List.range_succ,List.any_append];simp
end
set_option maxRecDepth 100000
set_option maxHeartbeats 2000000
theorem uniq_c (l:List Int) (hl:l.length≤20000000000000):FC Tryz.prog 6 [.s (chF l)] 0 [] (bV true) 0 []:=by
 obtain⟨p,hpg,hprog⟩:=program_e l hl;have haw:=awake_c;obtain⟨hp,t,ha,hv,hd,hs⟩:=valid_forest hpg.v;have hck:FC Tryz.prog 16 [nodes p] 0 [] (dgsV (srtD (allG p t))) 0 []:=check_yes p hpg.wfN hpg.wfI hpg.v hp t ha hv hs;have hdc:=decl_yes p hpg.wfN hpg.v hp t ha hv hs
 have hu:=fun i=> @uniq_law p t ha hv hs i
 have hGl:=allG_len hp ha hv hs
 have hDl:(anS p t).D.length≤2048:=by
  rw[D_eq ha hv,List.length_map];have:=List.length_filter_le (fun i=>decide (pathT p t i≠[])) (List.range t.size);rw[List.length_range] at this;unfold dclI;omega
 generalize (anS p t).D=D at*;generalize srtD (allG p t)=G at*;refine FC.walk (by kernel_rfl) Tryz.func6 rfl rfl ?_
 repeat'(first|exact y0|refine y1 ?_|refine y2 ?_ ?_|(refine y8 ?_ ?_<;>intro h<;>try exact y6)|(refine wC ?_;first|refine wF 11 (pu hprog ?_)|refine wF 15 (pu hdc ?_)|refine wF 16 (pu hck ?_))|refine y3 ?_|refine y7 ?_ ?_|refine y4 ?_|(refine y9 ?_ ?_<;>intro h)|exact y5|fail)
 refine Ex.inv (σ:=Nat) (fun i=>[(6,nI i)]) (fun _=>[]) (fun i=>i≤D.length) (fun i=>D.length-i) 0 rfl (fun _=>rfl) (Nat.zero_le _) ⟨VLe.refl _,trivial⟩ trivial ?_;intro i hi;by_cases hil:i<D.length
 ·have hui:=hu i hil
  repeat'(first|exact y0|refine y1 ?_|refine y2 ?_ ?_|(refine y8 ?_ ?_<;>intro h<;>try exact y6)|refine y3 ?_|refine y7 ?_ ?_|refine y4 ?_|(refine y9 ?_ ?_<;>intro h)|exact y5|fail)
  refine Ex.inv (σ:=Nat) (fun k=>[(7,.s (.bool (isTwc D i k))),(9,nI k)]) (fun _=>[]) (fun k=>k≤i) (fun k=>i-k) 0 rfl (fun _=>rfl) (Nat.zero_le _) ⟨VLe.refl _,VLe.refl _,trivial⟩ trivial ?_;intro k hk;by_cases hki:k<i
  ·have hks:=isTwc_succ D i k
   cases hb:isTwc D i k
   ·rw[hb,Bool.false_or] at hks
    by_cases he:(D.getD k dD).path=(D.getD i dD).path
    ·rw[decide_eq_true he] at hks
     repeat'(first|exact y0|refine y1 ?_|refine y2 ?_ ?_|(refine y8 ?_ ?_<;>intro h<;>try(exact y6))|refine y3 ?_|refine y7 ?_ ?_|refine y4 ?_|(refine y9 ?_ ?_<;>intro h)|exact y5|fail)
     all_goals try omega
     refine LoopR.same (k+1) (by omega) (by omega) rfl ⟨VLe.of_eq (by rw[hks];rfl),VLe.of_eq (congrArg nI (by push_cast;omega)),trivial⟩ trivial rfl rfl (by decide)
    ·rw[decide_eq_false he] at hks
     repeat'(first|exact y0|refine y1 ?_|refine y2 ?_ ?_|(refine y8 ?_ ?_<;>intro h<;>try(exact y6))|refine y3 ?_|refine y7 ?_ ?_|refine y4 ?_|(refine y9 ?_ ?_<;>intro h)|exact y5|fail)
     all_goals try omega
     refine LoopR.same (k+1) (by omega) (by omega) rfl ⟨VLe.of_eq (by rw[hks];rfl),VLe.of_eq (congrArg nI (by push_cast;omega)),trivial⟩ trivial rfl rfl (by decide)
   ·rw[hb,Bool.true_or] at hks
    repeat'(first|exact y0|refine y1 ?_|refine y2 ?_ ?_|(refine y8 ?_ ?_<;>intro h<;>try(exact y6))|refine y3 ?_|refine y7 ?_ ?_|refine y4 ?_|(refine y9 ?_ ?_<;>intro h)|exact y5|fail)
    refine LoopR.same (k+1) (by omega) (by omega) rfl ⟨VLe.of_eq (by rw[hks];rfl),VLe.of_eq (congrArg nI (by push_cast;omega)),trivial⟩ trivial rfl rfl (by decide)
  ·have hkk:k=i:=by omega
   subst hkk;rw[hui]
   repeat'(first|exact y0|refine y1 ?_|refine y2 ?_ ?_|(refine y8 ?_ ?_<;>intro h<;>try exact y6)|refine y3 ?_|refine y7 ?_ ?_|refine y4 ?_|(refine y9 ?_ ?_<;>intro h)|exact y5|fail)
   refine Ex.inv (σ:=Nat) (fun j=>[(8,.s (.bool (isDup G (D.getD k dD) j))),(10,nI j)]) (fun _=>[]) (fun j=>j≤G.length) (fun j=>G.length-j) 0 rfl (fun _=>rfl) (Nat.zero_le _) ⟨VLe.refl _,VLe.refl _,trivial⟩ trivial ?_;intro j hj;by_cases hjl:j<G.length
   ·have hjs:=isDup_succ G (D.getD k dD) j
    cases hb:isDup G (D.getD k dD) j
    ·rw[hb,Bool.false_or] at hjs
     by_cases he:G.getD j (0,0)=((D.getD k dD).node,3)
     ·rw[decide_eq_true he] at hjs
      repeat'(first|exact y0|refine y1 ?_|refine y2 ?_ ?_|(refine y8 ?_ ?_<;>intro h<;>try exact y6)|refine y3 ?_|refine y7 ?_ ?_|refine y4 ?_|(refine y9 ?_ ?_<;>intro h)|exact y5|fail)
      all_goals try omega
      refine RegX.atCmp (CmpG.go rfl rfl ⟨⟨by kernel_rfl,by kernel_rfl⟩,trivial⟩ (BrG.any (fun h=>?_) (fun h=>?_)))
      ·
       repeat'(first|exact y0|refine y1 ?_|refine y2 ?_ ?_|(refine y8 ?_ ?_<;>intro h<;>try exact y6)|refine y3 ?_|refine y7 ?_ ?_|refine y4 ?_|(refine y9 ?_ ?_<;>intro h)|exact y5|fail)
       all_goals try omega
       refine LoopR.same (j+1) (by omega) (by omega) rfl ⟨VLe.of_eq (by rw[hjs];rfl),VLe.of_eq (congrArg nI (by push_cast;omega)),trivial⟩ trivial rfl rfl (by decide)
      ·exfalso;rw[he] at h;simp at h
     ·rw[decide_eq_false he] at hjs
      repeat'(first|exact y0|refine y1 ?_|refine y2 ?_ ?_|(refine y8 ?_ ?_<;>intro h<;>try exact y6)|refine y3 ?_|refine y7 ?_ ?_|refine y4 ?_|(refine y9 ?_ ?_<;>intro h)|exact y5|fail)
      all_goals try omega
      refine RegX.atCmp (CmpG.go rfl rfl ⟨⟨by kernel_rfl,by kernel_rfl⟩,trivial⟩ (BrG.any (fun h=>?_) (fun h=>?_)))
      ·exfalso
       simp only[Bool.and_eq_true,beq_iff_eq,Bool.and_true] at h;exact he (Prod.ext (by simp only;omega) (by simp only;omega))
      ·
       repeat'(first|exact y0|refine y1 ?_|refine y2 ?_ ?_|(refine y8 ?_ ?_<;>intro h<;>try exact y6)|refine y3 ?_|refine y7 ?_ ?_|refine y4 ?_|(refine y9 ?_ ?_<;>intro h)|exact y5|fail)
       all_goals try omega
       refine LoopR.same (j+1) (by omega) (by omega) rfl ⟨VLe.of_eq (by rw[hjs];rfl),VLe.of_eq (congrArg nI (by push_cast;omega)),trivial⟩ trivial rfl rfl (by decide)
    ·rw[hb,Bool.true_or] at hjs
     repeat'(first|exact y0|refine y1 ?_|refine y2 ?_ ?_|(refine y8 ?_ ?_<;>intro h<;>try(exact y6))|refine y3 ?_|refine y7 ?_ ?_|refine y4 ?_|(refine y9 ?_ ?_<;>intro h)|exact y5|fail)
     refine LoopR.same (j+1) (by omega) (by omega) rfl ⟨VLe.of_eq (by rw[hjs];rfl),VLe.of_eq (congrArg nI (by push_cast;omega)),trivial⟩ trivial rfl rfl (by decide)
   ·have hjj:j=G.length:=by omega
    subst hjj;cases hb:isDup G (D.getD k dD) G.length
    ·
     repeat'(first|exact y0|refine y1 ?_|refine y2 ?_ ?_|(refine y8 ?_ ?_<;>intro h<;>try exact y6)|refine y3 ?_|refine y7 ?_ ?_|refine y4 ?_|(refine y9 ?_ ?_<;>intro h)|exact y5|fail)
     refine LoopR.same (k+1) (by omega) (by omega) rfl ⟨VLe.of_eq (congrArg nI (by push_cast;omega)),trivial⟩ trivial rfl rfl (by decide)
    ·
     repeat'(first|exact y0|refine y1 ?_|refine y2 ?_ ?_|(refine y8 ?_ ?_<;>intro h<;>try exact y6)|refine y3 ?_|refine y7 ?_ ?_|refine y4 ?_|(refine y9 ?_ ?_<;>intro h)|exact y5|fail)
     refine LoopR.same (k+1) (by omega) (by omega) rfl ⟨VLe.of_eq (congrArg nI (by push_cast;omega)),trivial⟩ trivial rfl rfl (by decide)
 ·
  repeat'(first|exact y0|refine y1 ?_|refine y2 ?_ ?_|(refine y8 ?_ ?_<;>intro h<;>try exact y6)|(refine wC ?_;first|refine wF 9 (pu haw ?_))|refine Fin.bool (.inl rfl) rfl ?_|refine y3 ?_|refine y7 ?_ ?_|refine y4 ?_|(refine y9 ?_ ?_<;>intro h)|exact y5|fail)
  all_goals rfl
end Go.Proofs.YtphdhedhhlfepaaGreatDoor
