import Derived.Test.YtphdhedhhlfepaaGreatDoorCzC34
set_option linter.unusedSimpArgs false
set_option linter.unusedVariables false
namespace Go.Proofs.YtphdhedhhlfepaaGreatDoor
open Go Ab
set_option maxRecDepth 100000
set_option maxHeartbeats 1000000
section
variable {α:Type} {g:α→List S} {w:Nat}
theorem flatW (hw:∀ a,(g a).length=w):∀ T:List α,(T.flatMap g).length=T.length*w
 |[]=>by simp
 |a::T=>by rw[List.flatMap_cons,List.length_append,flatW hw T,hw];simp only[List.length_cons];rw[Nat.add_mul,Nat.one_mul];omega
theorem setL_sub (hw:∀ a,(g a).length=w) {q d:α} {vs:List S} {j:Nat} (hj:j+vs.length≤w):∀ {T:List α} {i:Nat},i<T.length→g q=setL (g (T.getD i d)) j vs→setL (T.flatMap g) (i*w+j) vs=(T.set i q).flatMap g
 |[],i,h,_=>by simp at h
 |a::T,0,_,h=>by
  simp only[List.flatMap_cons,List.set_cons_zero,Nat.zero_mul,Nat.zero_add];rw[setL_append vs (g a) _ j (by rw[hw];exact hj),h];rfl
 |a::T,i+1,hi,h=>by
  simp only[List.flatMap_cons,List.set_cons_succ];have ih:=setL_sub hw hj (T:=T) (i:=i) (by simpa using hi) h
  have e:(i+1)*w+j=(i*w+j)+w:=by rw[Nat.add_mul];omega
  rw[e,setL_pre vs (g a) _ _ w (hw a),ih]
theorem setL_all (hw:∀ a,(g a).length=w) {q:α} {T:List α} {i:Nat} (hi:i<T.length):setL (T.flatMap g) (i*w) (g q)=(T.set i q).flatMap g:=by
 have key:∀ (vs:List S) (a:List S),a.length=vs.length→setL a 0 vs=vs:=by
  intro vs a h;have:=setL_app vs [] a (by omega);simp only[List.nil_append,List.length_nil] at this;rw[this,List.drop_eq_nil_of_le (by omega),List.append_nil]
 have:=setL_sub hw (q:=q) (d:=q) (vs:=g q) (j:=0) (by rw[hw];omega) hi (by rw[key _ _ (by rw[hw,hw])])
 rwa [Nat.add_zero] at this
theorem drop_flat (hw:∀ a,(g a).length=w) (d:α):∀ {T:List α} {i:Nat} (j:Nat),i<T.length→j≤w→(T.flatMap g).drop (i*w+j)=(g (T.getD i d)).drop j++(T.drop (i+1)).flatMap g
 |[],i,j,h,_=>by simp at h
 |a::T,0,j,_,hj=>by
  simp only[List.flatMap_cons,Nat.zero_mul,Nat.zero_add,List.drop_succ_cons,List.drop_zero];rw[List.drop_append_of_le_length (by rw[hw];exact hj)];rfl
 |a::T,i+1,j,hi,hj=>by
  simp only[List.flatMap_cons,List.drop_succ_cons]
  have e:(i+1)*w+j=(g a).length+(i*w+j):=by rw[Nat.add_mul,hw];omega
  rw[e,List.drop_length_add_append,drop_flat hw d j (by simpa using hi) hj];rfl
theorem ldAt_sub (hw:∀ a,(g a).length=w) {T:List α} {bl:Bl} (hb:bl.cells=T.flatMap g) (hk:bl.kind=none) (d:α) {i j m:Nat} (hi:i<T.length) (hj:j+m≤w):ldAt true m bl (i*w+j)=some (.agg (((g (T.getD i d)).drop j).take m)):=by
 unfold ldAt;rw[hk,hb];have h1:(i+1)*w≤T.length*w:=Nat.mul_le_mul_right _ hi;rw[Nat.add_mul] at h1;have hle:Nat.ble (i*w+j+m) (T.flatMap g).length=true:=Nat.ble_eq_true_of_le (by rw[flatW hw];omega);simp only[hle];rw[drop_flat hw d j hi (by omega),List.take_append_of_le_length (by rw[List.length_drop,hw];omega)]
theorem rep_le {zs:List S} {a:α} (hz:zs.length=w) (h:All2 SLe zs (g a)) (n:Nat):All2 SLe (rep n zs) ((List.replicate n a).flatMap g):=by
 have hl:(g a).length=w:=by have:=h.len;omega
 refine All2.of_get ?_ fun i x y hx hy=>?_
 ·rw[rep_length,hz]
  clear hz h
  induction n with
  |zero=>simp
  |succ n ih=>rw[List.replicate_succ,List.flatMap_cons,List.length_append,hl,Nat.add_mul];omega
 ·have hi:i<n*zs.length:=by
   rcases Nat.lt_or_ge i (rep n zs).length with h|h
   ·rwa [rep_length] at h
   ·rw[List.getElem?_eq_none h] at hx;cases hx
  rw[rep_get _ _ _ hi,hz] at hx
  have hw0:0<w:=by
   rcases Nat.eq_zero_or_pos w with h|h
   ·rw[hz,h] at hi;omega
   ·exact h
  have key:∀ (n i:Nat),((List.replicate n a).flatMap g)[i]? =if i<n*w then (g a)[i%w]? else none:=by
   intro n
   induction n with
   |zero=>intro i;simp
   |succ n ih=>
    intro i;rw[List.replicate_succ,List.flatMap_cons]
    rcases Nat.lt_or_ge i w with h|h
    ·rw[List.getElem?_append_left (by rw[hl];exact h),if_pos (by rw[Nat.add_mul];omega),Nat.mod_eq_of_lt h]
    ·rw[List.getElem?_append_right (by rw[hl];exact h),hl,ih,Nat.mod_eq_sub_mod h]
     have e:i-w<n*w↔i<(n+1)*w:=by rw[Nat.add_mul];omega
     simp only[e]
  rw[key,if_pos (by rw[←hz];exact hi)] at hy;exact all2_at h hx hy
end
def infC (x:Inf):List S:=[.bool x.sc.root,.int .i64 x.sc.up,strsF x.sc.segs,.str x.path,.int .i64 x.me,.int .i64 x.lo,.int .i64 x.pa]
abbrev infV (L:List Inf):V:=.s (.frz (fun k=>infC (L.getD k ini)) 7 L.length)
theorem infC_len (x:Inf):(infC x).length=7:=rfl
abbrev ifB (T:List Inf):Bl:={cells:=T.flatMap infC,ty:=94,sym:=true,flat:=true}
theorem infC_pure {x:Inf} {j:Nat} {s:S} (h:(infC x)[j]? =some s):pureS s=true:=by
 rcases j with _|_|_|_|_|_|_|j
 ·cases h;rfl
 ·cases h;rfl
 ·cases h;rfl
 ·cases h;rfl
 ·cases h;rfl
 ·cases h;rfl
 ·cases h;rfl
 ·simp[infC] at h
theorem declR_c (op:Int):FC Tryz.prog 82 [nI op] 0 [] (bV (declB op)) 0 []:=by
 refine FC.walk (by kernel_rfl) Tryz.func82 rfl rfl ?_
 repeat'(first|exact y0|refine y1 ?_|refine y2 ?_ ?_|(refine y8 ?_ ?_<;>intro h<;>try exact y6)|refine Fin.bool (.inl rfl) rfl ?_|refine y3 ?_|refine y7 ?_ ?_|refine y4 ?_|(refine y9 ?_ ?_<;>intro h)|exact y5|fail)
 all_goals (unfold declB;first|(rw[decide_eq_true (by omega)];done)|(rw[decide_eq_false (by omega)];done)|(simp;omega))
section
variable {p:List Nd} {t:Fo} {cs:List (Bool×Int)}
theorem nm_at (ha:t.At p 0) (hv:t.V cs) {i:Nat} (hi:i<t.size) (hop:(p.getD i dN).op=10∨declB (p.getD i dN).op=true):
 i+1<p.length∧nameF (t.kid 0 i)=(parseP (p.getD (i+1) dN).str).1∧∃ l,(t.kid 0 i).starts (i+1)=(i+1)::l:=by
 unfold declB at hop;simp only[decide_eq_true_eq] at hop;obtain⟨h0,h1,h2,_⟩:=node_kids ha hv hi (by omega)
 have key:∃ sl r,slots (kindsB (p.getD i dN).op (p.getD i dN).kids).1=sl::r:=by
  have:(p.getD i dN).op=10∨(p.getD i dN).op=11∨(p.getD i dN).op=12∨(p.getD i dN).op=13∨(p.getD i dN).op=14∨(p.getD i dN).op=15∨(p.getD i dN).op=18∨(p.getD i dN).op=20∨(p.getD i dN).op=21:=by omega
  rcases this with e|e|e|e|e|e|e|e|e<;>rw[e]<;>exact⟨_,_,rfl⟩
 obtain⟨sl,r,e⟩:=key;rw[e] at h2;generalize t.kid 0 i=k at*;obtain⟨y,ky,n',rfl,_⟩:=V_cons h2;exact⟨At.lt h1,by rw[At.get h1];rfl,_,rfl⟩
theorem kids_c (hp:p.length≤2048) (ha:t.At p 0) (hv:t.V cs) (hs:t.size=p.length) {i:Nat} (hi:i<t.size):FC Tryz.prog 81 [nodes p,nI i] 0 [] (.s (intsF ((t.kid 0 i).starts (i+1)))) 0 []:=by
 obtain⟨sl,h1,h2⟩:=kid_at ha hv (Nat.zero_le i) (by omega:i<0+t.size);have h3:=kid_size (t:=t) (Nat.zero_le i) (by omega);have h4:=Fo.cnt_le (t.kid 0 i);refine kidsR_c p hp i _ (by omega) _ ?_ (At.chain h1.2.2.1) ?_
 ·rw[starts_len];exact h1.2.1
 ·rw[starts_len];omega
theorem absJ {b r:Pth} (h:(joinP b r).2=true):absP (joinP b r).1=true:=by
 unfold joinP at h ⊢;split
 ·simp_all
 ·rename_i h1
  have hb:absP b=true:=by cases hq:absP b<;>simp_all
  have hr:validP r=true:=by cases hq:validP r<;>simp_all
  obtain⟨b1,b2,b3⟩:=abs_facts hb;obtain⟨r1,r2,r3,r4,r5,r6⟩:=valid_facts hr;split
  ·rename_i hroot
   have:=r4 hroot;unfold absP validP;simp only[Bool.true_and,Bool.and_eq_true,decide_eq_true_eq,Bool.or_eq_true,Bool.not_eq_true',Bool.and_eq_false_imp];simp;exact⟨by omega,by simpa using r5⟩
  ·split
   ·simp_all
   ·rename_i h2 h3
    have hv:=hb;unfold absP at hv;simp only[Bool.and_eq_true] at hv;obtain⟨_,_,_,_,b5,_⟩:=valid_facts hv.2
    have:(b.segs.take ((b.segs.length:Int)-r.up).toNat++r.segs).all isSeg=true:=by
     rw[List.all_append,r5,Bool.and_true]
     exact List.all_eq_true.2 fun x hx=>List.all_eq_true.1 b5 x (List.mem_of_mem_take hx)
    unfold absP validP;simp only[Bool.true_and,this];simp;omega
theorem segOK_of {q:Pth} (h:validP q=true):segOK q.segs:=fun i hi=>by
 have h5:=(valid_facts h).2.2.2.2.1;have:=isSeg_len (List.all_eq_true.1 h5 (q.segs.getD i []) (by rw[List.getD_eq_getElem?_getD,List.getElem?_eq_getElem hi];exact List.getElem_mem _));omega
theorem segOK_abs {q:Pth} (h:absP q=true):segOK q.segs:=segOK_of (by unfold absP at h;simp only[Bool.and_eq_true] at h;exact h.2)
theorem segOK_parse (s:By):segOK (parseP s).1.segs:=by
 cases h:(parseP s).2 with
 |true=>exact segOK_of (parse_valid (p:=(parseP s).1) (by rw[←h]))
 |false=>
  have hf:∀ q:Pth,(finP q).2=false→(finP q).1=z0:=fun q h=>by
   unfold finP at h ⊢;split
   ·rename_i hh;rw[if_pos hh] at h;cases h
   ·rfl
  have ht:∀ (r:Bool) (u:Nat) (l:By),(tailP r u l).2=false→(tailP r u l).1=z0:=fun r u l h=>by
   unfold tailP at h ⊢;split
   ·rename_i hh;rw[if_pos hh] at h;exact hf _ h
   ·rename_i hh
    rw[if_neg hh] at h;split
    ·rfl
    ·rename_i h2;rw[if_neg h2] at h;exact hf _ h
  have:(parseP s).1=z0:=by
   unfold parseP at h ⊢;split
   ·rename_i hh;rw[if_pos hh] at h;exact ht _ _ _ h
   ·rename_i hh;rw[if_neg hh] at h;exact ht _ _ _ h
  rw[this];exact fun i hi=>by simp[z0] at hi
theorem absI:absP (⟨true,0,[]⟩:Pth)=true:=by decide
theorem abs_inn {x:Nd} {nm:Pth} {i:Nat} {a:Inf} (h:absP a.sc=true):absP (innI x nm i a).sc=true:=by
 unfold innI;simp only;split
 ·rename_i hh;exact absJ hh.2
 ·exact h
theorem ctx_abs:∀ {t:Fo} {j i:Nat} {a:Inf},absP a.sc=true→absP (ctxF t j i a).sc=true
 | .nil,_,_,_,h=>h
 | .cons x k n,j,i,a,h=>by
   unfold ctxF;split
   ·exact h
   ·split
    ·exact ctx_abs (abs_inn h)
    ·exact ctx_abs h
theorem ctxT_abs (t:Fo) (i:Nat):absP (ctxT t i).sc=true:=ctx_abs (a:=ini) absI
end
set_option maxRecDepth 100000
set_option maxHeartbeats 1000000
def iniC:List S:=[.bool true,.int .i64 0,.slc none 0 (some 0),.str [],.int .i64 (-1),.int .i64 (-1),.int .i64 (-1)]
def zerC:List S:=[.bool false,.int .i64 0,.slc none 0 (some 0),.str [],.int .i64 0,.int .i64 0,.int .i64 0]
def if2 (b:Bool):List S:=match b with|true=>iniC|false=>zerC
theorem if2_len (b:Bool):(if2 b).length=7:=by cases b<;>rfl
abbrev if2B (T:List Bool):Bl:={cells:=T.flatMap if2,ty:=94,sym:=true,flat:=true}
def upto (n i:Nat):List Bool:=(List.range n).map fun j=>decide (j<i)
theorem upto_zero (n:Nat):upto n 0=List.replicate n false:=by
 refine List.ext_getElem? fun j=>?_
 unfold upto;rw[List.getElem?_map,List.getElem?_replicate];split
 ·rename_i h;rw[List.getElem?_range h];simp
 ·rename_i h;rw[List.getElem?_eq_none (by simp;omega)];rfl
theorem upto_end (n:Nat):upto n n=List.replicate n true:=by
 refine List.ext_getElem? fun j=>?_
 unfold upto;rw[List.getElem?_map,List.getElem?_replicate];split
 ·rename_i h;rw[List.getElem?_range h];simp[h]
 ·rename_i h;rw[List.getElem?_eq_none (by simp;omega)];rfl
theorem upto_len (n i:Nat):(upto n i).length=n:=by simp[upto]
theorem upto_set (n i:Nat) (h:i<n):(upto n i).set i true=upto n (i+1):=by
 refine List.ext_getElem? fun j=>?_
 rw[List.getElem?_set,upto_len];unfold upto;rw[List.getElem?_map,List.getElem?_map];by_cases e:i=j
 ·subst e
  rw[if_pos rfl,if_pos h,List.getElem?_range h];simp
 ·rw[if_neg e]
  rcases Nat.lt_or_ge j n with hj|hj
  ·rw[List.getElem?_range hj]
   simp only[Option.map_some,Option.some.injEq,decide_eq_decide];omega
  ·rw[List.getElem?_eq_none (by simpa using hj)];rfl
theorem SLe.refls:∀ l:List S,All2 SLe l l
 |[]=>trivial
 |a::l=>⟨SLe.refl a,SLe.refls l⟩
theorem if2_ini:All2 SLe (if2 true) (infC ini):=show All2 SLe iniC (infC ini) from ⟨SLe.refl _,SLe.refl _,SLe.nil,SLe.refl _,SLe.refl _,SLe.refl _,SLe.refl _,trivial⟩
theorem SLe.app2 {x y:List S} (h:All2 SLe x y) {u v:List S} (k:All2 SLe u v):All2 SLe (x++u) (y++v):=by
 induction x generalizing y with
 |nil=>cases y with
  |nil=>exact k
  |cons _ _=>exact h.elim
 |cons a x ih=>cases y with
  |nil=>exact h.elim
  |cons b y=>exact⟨h.1,ih h.2⟩
theorem ini_le (n:Nat):All2 SLe ((List.replicate n true).flatMap if2) ((List.replicate n ini).flatMap infC):=by
 induction n with
 |zero=>trivial
 |succ n ih=>
  rw[List.replicate_succ,List.replicate_succ,List.flatMap_cons,List.flatMap_cons];exact SLe.app2 if2_ini ih
theorem set_same {α:Type} {T:List α} {i:Nat} {x:α} (h:T[i]? =some x):T.set i x=T:=by
 refine List.ext_getElem? fun j=>?_
 rw[List.getElem?_set];split
 ·rename_i e;subst e
  have hl:i<T.length:=by
   rcases Nat.lt_or_ge i T.length with q|q
   ·exact q
   ·rw[List.getElem?_eq_none q] at h;cases h
  rw[if_pos hl,h]
 ·rfl
theorem setK_take {T:List Inf} {ks:List Nat} {x:Inf} {k:Nat} (h:k<ks.length):setK T (ks.take (k+1)) x=(setK T (ks.take k) x).set (ks.getD k 0) x:=by
 unfold setK;rw[List.take_add_one,List.foldl_append,List.getElem?_eq_getElem h,List.getD_eq_getElem?_getD,List.getElem?_eq_getElem h];rfl
theorem if_scope (op:Int) (ok:Bool) (q c:Pth):(if (op=10∨op=11∨op=12)∧ok=true then q else c)=if op=10∧ok=true then q else if (op=11∨op=12)∧ok=true then q else c:=by
 cases ok
 ·simp
 ·by_cases h1:op=10<;>simp[h1]
theorem infos_c {cs:List (Bool×Int)} (p:List Nd) (hp:p.length≤2048) (hw:wfS p) (t:Fo) (ha:t.At p 0) (hv:t.V cs) (hs:t.size=p.length):FC Tryz.prog 51 [nodes p] 0 [] (infV (infL p t)) 0 []:=by
 have hsz:(Tryz.prog.types[94]).size=7:=by kernel_rfl
 have hby:(Tryz.prog.types[94]).bytes=80:=by kernel_rfl
 refine FC.walk (by kernel_rfl) Tryz.func51 rfl rfl ?_
 repeat'(first|exact y0|refine y1 ?_|refine y2 ?_ ?_|(refine y8 ?_ ?_<;>intro h<;>try exact y6)|refine y3 ?_|refine y7 ?_ ?_|refine y4 ?_|(refine y9 ?_ ?_<;>intro h)|exact y5|fail)
 refine RegX.opA [.idx p.length,.idx p.length] rfl rfl ?_ ?_
 ·rw[hby];exact⟨rfl,rfl,Nat.le_refl _,by omega,by omega⟩
 repeat'(first|exact y0|refine y1 ?_|refine y2 ?_ ?_|(refine y8 ?_ ?_<;>intro h<;>try exact y6)|refine y3 ?_|refine y7 ?_ ?_|refine y4 ?_|(refine y9 ?_ ?_<;>intro h)|exact y5|fail)
 refine Ex.subF (L':=[(0,some (if2B (upto p.length 0)))]) (SubF.cons rfl (fun φ w b h=>BlAt.cells (by rw[upto_zero];exact rep_le (zs:=zerC) (g:=if2) (a:=false) (w:=7) rfl (SLe.refls _) p.length) h) (SubF.refl _)) ?_;refine Ex.inv (σ:=Nat) (fun i=>[(4,nI i)]) (fun i=>[(0,some (if2B (upto p.length i)))]) (fun i=>i≤p.length) (fun i=>p.length-i) 0 rfl (fun _=>rfl) (Nat.zero_le _) ⟨VLe.refl _,trivial⟩ ⟨rfl,trivial⟩ ?_;intro i hi;by_cases hlt:i<p.length
 ·have hcat:plus 0 (times i (Tryz.prog.types[94]).size)=i*7:=by rw[hsz,plus_eq,times_eq,Nat.zero_add]
  repeat'(first|exact y0|refine y1 ?_|refine y2 ?_ ?_|(refine y8 ?_ ?_<;>intro h<;>try exact y6)|refine RegX.sto [.cells ((upto p.length (i+1)).flatMap if2)] rfl rfl ⟨?_,?_⟩ rfl ?_|refine y3 ?_|refine y7 ?_ ?_|refine y4 ?_|(refine y9 ?_ ?_<;>intro h)|exact y5|fail)
  all_goals try first
   |omega
   |(rw[hcat];show i*7+7≤((upto p.length i).flatMap if2).length;rw[flatW if2_len,upto_len];omega)
   |(rw[hcat,←upto_set _ _ hlt];exact (setL_all if2_len (q:=true) (by rw[upto_len];exact hlt)).symm)
  refine LoopR.same (i+1) (by omega) (by omega) rfl ⟨VLe.of_eq (congrArg nI (by push_cast;rfl)),trivial⟩ ⟨rfl,trivial⟩ rfl rfl (by decide)
 have hi':i=p.length:=by omega
 subst hi'
 repeat'(first|exact y0|refine y1 ?_|refine y2 ?_ ?_|(refine y8 ?_ ?_<;>intro h<;>try exact y6)|refine y3 ?_|refine y7 ?_ ?_|refine y4 ?_|(refine y9 ?_ ?_<;>intro h)|exact y5|fail)
 rw[upto_end];refine Ex.subF (L':=[(0,some (ifB (infT p t 0)))]) (SubF.cons rfl (fun φ w b h=>BlAt.cells (by rw[infT_zero ha,hs];exact ini_le p.length) h) (SubF.refl _)) ?_;refine Ex.canon [0] 151 [(0,nodes p),(3,.s (.slc (some (0,0)) p.length (some p.length))),(5,nI 0)] [(0,some (ifB (infT p t 0)))] rfl rfl ⟨VLe.refl _,VLe.refl _,VLe.refl _,trivial⟩ ⟨rfl,trivial⟩ rfl ?_;refine Ex.inv (σ:=Nat) (fun i=>[(5,nI i)]) (fun i=>[(0,some (ifB (infT p t i)))]) (fun i=>i≤p.length) (fun i=>p.length-i) 0 rfl (fun _=>rfl) (Nat.zero_le _) ⟨VLe.refl _,trivial⟩ ⟨rfl,trivial⟩ ?_;clear hi hlt;intro i hi;by_cases hlt:i<p.length
 ·have hti:i<t.size:=by omega
  have hkc:=kids_c hp ha hv hs hti;have hst:=infT_step ha hti;have hat:=infT_at ha hti;have hT:=infT_len (p:=p) (t:=t) i
  have hkb:∀ j∈(t.kid 0 i).starts (i+1),j<p.length:=fun j hj=>by have:=(ctx_kid ha hti hj).2.1;omega
  have hkl:(t.kid 0 i).cnt≤2048:=by
   have h1:=Fo.cnt_le (t.kid 0 i);have h2:=kid_size (t:=t) (Nat.zero_le i) (by omega);omega
  rw[←starts_len (t.kid 0 i) (i+1)] at hkl;have hnm:=nm_at ha hv hti;have habs:=ctxT_abs t i;have hcp:=ctx_path ha hti;have hdc:=declR_c (p.getD i dN).op;unfold ownT at hst;generalize hTn:infT p t (i+1)=Tn at*;generalize infT p t i=T at*;generalize ctxT t i=C at*;obtain⟨csc,cpath,cme,clo,cpa⟩:=C;simp only at habs hcp;subst hcp;obtain⟨croot,cup,csegs⟩:=csc;have hjn:=joinR_c ⟨croot,cup,csegs⟩ (nameF (t.kid 0 i)) (segOK_abs habs);have hja:= @absJ ⟨croot,cup,csegs⟩ (nameF (t.kid 0 i));have hprs:=parseR_c (p.getD (i+1) dN).str (wfS_get hw (i+1));have hsk:=segOK_parse (p.getD (i+1) dN).str
  have hcat:plus 0 (times i (Tryz.prog.types[94]).size)=i*7:=by rw[hsz,plus_eq,times_eq,Nat.zero_add]
  have hTi:T.getD i ini=⟨⟨croot,cup,csegs⟩,[],cme,clo,cpa⟩:=by rw[List.getD_eq_getElem?_getD,hat];rfl
  have hl7:=ldAt_sub (g:=infC) infC_len (bl:=ifB T) rfl rfl ini (i:=i) (j:=0) (m:=7) (by omega) (by omega);rw[hTi] at hl7
  obtain⟨A1,hA1⟩:∃ A1:Inf,A1=⟨if ((p.getD i dN).op=11∨(p.getD i dN).op=12)∧(joinP ⟨croot,cup,csegs⟩ (nameF (t.kid 0 i))).2=true then (joinP ⟨croot,cup,csegs⟩ (nameF (t.kid 0 i))).1 else ⟨croot,cup,csegs⟩,[],cme,clo,(i:Int)⟩:=⟨_,rfl⟩
  obtain⟨A2,hA2⟩:∃ A2:Inf,A2=innI (p.getD i dN) (nameF (t.kid 0 i)) i ⟨⟨croot,cup,csegs⟩,[],cme,clo,cpa⟩:=⟨_,rfl⟩
  rw[←hA2] at hst
  obtain⟨T1,hT1⟩:∃ T1,T1=T.set i (ownI (p.getD i dN) (nameF (t.kid 0 i)) ⟨⟨croot,cup,csegs⟩,[],cme,clo,cpa⟩):=⟨_,rfl⟩
  rw[←hT1] at hst
  have hT1l:T1.length=p.length:=by rw[hT1,List.length_set,hT,hs]
  generalize hks:(t.kid 0 i).starts (i+1)=ks at*
  repeat'(first|refine Ex.cutC 52 151 2 [(0,nodes p),(3,.s (.slc (some (0,0)) p.length (some p.length))),(5,nI i),(6,.s (intsF ks)),(7,.s (.ptr (some (1,0))))] [(0,some (ifB T1)),(1,some {cells:=infC A1,ty:=94})] rfl (Hold.k ?_) (Hold.k ?_)|exact y0|refine y1 ?_|refine y2 ?_ ?_|(refine y8 ?_ ?_<;>intro h<;>try exact y6)|(refine wC ?_;first|refine wF 81 (pu hkc ?_)|refine wF 82 (pu hdc ?_))|refine RegX.ldS [.val (.agg (infC ⟨⟨croot,cup,csegs⟩,[],cme,clo,cpa⟩))] rfl rfl ?_ rfl ?_|refine y3 ?_|refine y7 ?_ ?_|refine y4 ?_|(refine y9 ?_ ?_<;>intro h)|exact y5|fail)
  ·rw[hcat];exact hl7
  ·refine⟨?_⟩
   cases hdB:declB (p.getD i dN).op
   ·have e1: ¬((p.getD i dN).op=11∨(p.getD i dN).op=12):=by unfold declB at hdB;simp only[decide_eq_false_iff_not] at hdB;omega
    rw[if_neg (fun h=>e1 h.1)] at hA1
    have e2:T1=T:=by rw[hT1];unfold ownI;rw[if_neg (by rw[hdB];simp)];exact set_same hat
    subst hA1;subst e2
    repeat'(first|exact y0|refine y1 ?_|refine y2 ?_ ?_|(refine y8 ?_ ?_<;>intro h<;>try exact y6)|refine y3 ?_|refine y7 ?_ ?_|refine y4 ?_|(refine y9 ?_ ?_<;>intro h)|exact y5|fail)
    refine CutR.at [0,1] rfl rfl ⟨VLe.refl _,VLe.refl _,VLe.refl _,VLe.refl _,VLe.refl _,trivial⟩ ⟨rfl,rfl,trivial⟩ rfl
   ·obtain⟨hi1,hnmE,l,rfl⟩:=hnm (.inr hdB)
    rw[hnmE] at hjn hA1 hT1 hA2 hja;have hjn:=hjn hsk;generalize parseP (p.getD (i+1) dN).str=pp at*;obtain⟨⟨pr,pq,ps⟩,pok⟩:=pp;unfold ownI at hT1;simp only at hjn hA1 hT1 hja hA2;generalize joinP ⟨croot,cup,csegs⟩ ⟨pr,pq,ps⟩=jj at*;obtain⟨⟨jr,ju,js⟩,ok⟩:=jj
    have hsp:(Tryz.prog.types[92]).size=3:=by kernel_rfl
    have hl3:=ldAt_sub (g:=infC) infC_len (bl:=ifB T) rfl rfl ini (i:=i) (j:=0) (m:=3) (by omega) (by omega);rw[hTi] at hl3;cases ok
    ·rw[if_neg (by simp)] at hA1 hT1
     have e2:T1=T:=by rw[hT1];exact set_same hat
     subst hA1;subst e2
     repeat'(first|exact y0|refine y1 ?_|refine y2 ?_ ?_|(refine y8 ?_ ?_<;>intro h<;>try exact y6)|(refine wC ?_;first|refine wF 83 (pu hprs ?_)|refine wF 84 (pu hjn ?_))|refine RegX.ldS [.val (.agg (ptC ⟨croot,cup,csegs⟩))] rfl rfl ?_ rfl ?_|refine y3 ?_|refine y7 ?_ ?_|refine y4 ?_|(refine y9 ?_ ?_<;>intro h)|exact y5|fail)
     all_goals try first
      |exact hi1
      |(show 0<((i+1)::l).length;simp)
      |(show ldAt true (Tryz.prog.types[92]).size (ifB T1) (plus (plus 0 (times i (Tryz.prog.types[94]).size)) 0)=_;rw[hsp,hcat,plus_eq];exact hl3)
     all_goals try refine CutR.at [0,1] rfl rfl ⟨VLe.refl _,VLe.refl _,VLe.refl _,VLe.refl _,VLe.refl _,trivial⟩ ⟨rfl,rfl,trivial⟩ rfl
    ·rw[if_pos ⟨hdB,rfl⟩] at hT1
     have hfm:=fmtR_c ⟨jr,ju,js⟩ (segOK_abs (hja rfl))
     have hst2:setL (T.flatMap infC) (i*7+3) [.str (fmtP ⟨jr,ju,js⟩)]=T1.flatMap infC:=by
      rw[hT1];exact setL_sub infC_len (d:=ini) (by simp) (by omega) (by rw[hTi];rfl)
     have hp3:plus (plus 0 (times i (Tryz.prog.types[94]).size)) 3=i*7+3:=by rw[hcat,plus_eq]
     by_cases hd:(p.getD i dN).op=11∨(p.getD i dN).op=12
     ·rw[if_pos ⟨hd,rfl⟩] at hA1
      subst hA1
      repeat'(first|exact y0|refine y1 ?_|refine y2 ?_ ?_|(refine y8 ?_ ?_<;>intro h<;>try exact y6)|(refine wC ?_;first|refine wF 83 (pu hprs ?_)|refine wF 84 (pu hjn ?_)|refine wF 85 (pu hfm ?_))|refine RegX.ldS [.val (.agg (ptC ⟨croot,cup,csegs⟩))] rfl rfl ?_ rfl ?_|refine RegX.sto [.cells (T1.flatMap infC)] rfl rfl ⟨?_,?_⟩ rfl ?_|refine y3 ?_|refine y7 ?_ ?_|refine y4 ?_|(refine y9 ?_ ?_<;>intro h)|exact y5|fail)
      all_goals try first
       |exact hi1
       |(show 0<((i+1)::l).length;simp)
       |(show ldAt true (Tryz.prog.types[92]).size (ifB T) (plus (plus 0 (times i (Tryz.prog.types[94]).size)) 0)=_;rw[hsp,hcat,plus_eq];exact hl3)
       |(show _=setL (ifB T).cells (plus (plus 0 (times i (Tryz.prog.types[94]).size)) 3) _;rw[hp3];exact hst2.symm)
       |(show plus (plus 0 (times i (Tryz.prog.types[94]).size)) 3+1≤(T.flatMap infC).length;rw[hp3,flatW infC_len];omega)
      all_goals try refine CutR.at [0,1] rfl rfl ⟨VLe.refl _,VLe.refl _,VLe.refl _,VLe.refl _,VLe.refl _,trivial⟩ ⟨rfl,rfl,trivial⟩ rfl
     ·rw[if_neg (fun h=>hd h.1)] at hA1
      subst hA1
      repeat'(first|exact y0|refine y1 ?_|refine y2 ?_ ?_|(refine y8 ?_ ?_<;>intro h<;>try exact y6)|(refine wC ?_;first|refine wF 83 (pu hprs ?_)|refine wF 84 (pu hjn ?_)|refine wF 85 (pu hfm ?_))|refine RegX.ldS [.val (.agg (ptC ⟨croot,cup,csegs⟩))] rfl rfl ?_ rfl ?_|refine RegX.sto [.cells (T1.flatMap infC)] rfl rfl ⟨?_,?_⟩ rfl ?_|refine y3 ?_|refine y7 ?_ ?_|refine y4 ?_|(refine y9 ?_ ?_<;>intro h)|exact y5|fail)
      all_goals try first
       |exact hi1
       |(show 0<((i+1)::l).length;simp)
       |(show ldAt true (Tryz.prog.types[92]).size (ifB T) (plus (plus 0 (times i (Tryz.prog.types[94]).size)) 0)=_;rw[hsp,hcat,plus_eq];exact hl3)
       |(show _=setL (ifB T).cells (plus (plus 0 (times i (Tryz.prog.types[94]).size)) 3) _;rw[hp3];exact hst2.symm)
       |(show plus (plus 0 (times i (Tryz.prog.types[94]).size)) 3+1≤(T.flatMap infC).length;rw[hp3,flatW infC_len];omega)
      all_goals try refine CutR.at [0,1] rfl rfl ⟨VLe.refl _,VLe.refl _,VLe.refl _,VLe.refl _,VLe.refl _,trivial⟩ ⟨rfl,rfl,trivial⟩ rfl
  ·refine⟨?_⟩
   clear hl7
   repeat'(first|refine Ex.cutB 4 151 2 [(0,nodes p),(3,.s (.slc (some (0,0)) p.length (some p.length))),(5,nI i),(6,.s (intsF ks)),(7,.s (.ptr (some (1,0))))] [(0,some (ifB T1)),(1,some {cells:=infC A2,ty:=94})] rfl (Hold.k ?_) (Hold.k ?_)|exact y0|refine y1 ?_|refine y2 ?_ ?_|(refine y8 ?_ ?_<;>intro h<;>try exact y6)|refine y3 ?_|refine y7 ?_ ?_|refine y4 ?_|(refine y9 ?_ ?_<;>intro h)|exact y5|fail)
   ·refine⟨?_⟩
    have hA2':A2=⟨if (p.getD i dN).op=10∧(joinP ⟨croot,cup,csegs⟩ (nameF (t.kid 0 i))).2=true then (joinP ⟨croot,cup,csegs⟩ (nameF (t.kid 0 i))).1 else A1.sc,[],if (p.getD i dN).op=14 then (i:Int) else cme,if (p.getD i dN).op=14 then-1 else if (p.getD i dN).op=32 then (i:Int) else clo,(i:Int)⟩:=by
     rw[hA2,hA1];unfold innI;simp only[Inf.mk.injEq,and_true,true_and];exact if_scope _ _ _ _
    by_cases h10:(p.getD i dN).op=10
    ·obtain⟨hi1,hnmE,l,rfl⟩:=hnm (.inl h10)
     have e1:A1=⟨⟨croot,cup,csegs⟩,[],cme,clo,(i:Int)⟩:=by rw[hA1,if_neg (fun h=>by omega)]
     have e2:T1=T:=by rw[hT1];unfold ownI;rw[if_neg (fun h=>by have:=h.1;unfold declB at this;simp only[decide_eq_true_eq] at this;omega)];exact set_same hat
     rw[hnmE] at hjn hA2';have hjn:=hjn hsk;rw[if_neg (show ¬(p.getD i dN).op=14 by omega),if_neg (show ¬(p.getD i dN).op=14 by omega),if_neg (show ¬(p.getD i dN).op=32 by omega)] at hA2';clear hA2 hA1 hT1;subst e1;subst e2;generalize parseP (p.getD (i+1) dN).str=pp at*;obtain⟨⟨pr,pq,ps⟩,pok⟩:=pp;simp only at hjn hA2';generalize joinP ⟨croot,cup,csegs⟩ ⟨pr,pq,ps⟩=jj at*;obtain⟨⟨jr,ju,js⟩,ok⟩:=jj
     have hsp:(Tryz.prog.types[92]).size=3:=by kernel_rfl
     have hl3:=ldAt_sub (g:=infC) infC_len (bl:=ifB T1) rfl rfl ini (i:=i) (j:=0) (m:=3) (by omega) (by omega);rw[hTi] at hl3;cases ok
     ·rw[if_neg (by simp)] at hA2'
      subst hA2'
      repeat'(first|exact y0|refine y1 ?_|refine y2 ?_ ?_|(refine y8 ?_ ?_<;>intro h<;>try exact y6)|(refine wC ?_;first|refine wF 83 (pu hprs ?_)|refine wF 84 (pu hjn ?_))|refine RegX.ldS [.val (.agg (ptC ⟨croot,cup,csegs⟩))] rfl rfl ?_ rfl ?_|refine y3 ?_|refine y7 ?_ ?_|refine y4 ?_|(refine y9 ?_ ?_<;>intro h)|exact y5|fail)
      all_goals try first
       |exact hi1
       |(show 0<((i+1)::l).length;simp)
       |(show ldAt true (Tryz.prog.types[92]).size (ifB T1) (plus (plus 0 (times i (Tryz.prog.types[94]).size)) 0)=_;rw[hsp,hcat,plus_eq];exact hl3)
      all_goals refine CutR.at [0,1] rfl rfl ⟨VLe.refl _,VLe.refl _,VLe.refl _,VLe.refl _,VLe.refl _,trivial⟩ ⟨rfl,rfl,trivial⟩ rfl
     ·rw[if_pos ⟨h10,rfl⟩] at hA2'
      subst hA2'
      repeat'(first|exact y0|refine y1 ?_|refine y2 ?_ ?_|(refine y8 ?_ ?_<;>intro h<;>try exact y6)|(refine wC ?_;first|refine wF 83 (pu hprs ?_)|refine wF 84 (pu hjn ?_))|refine RegX.ldS [.val (.agg (ptC ⟨croot,cup,csegs⟩))] rfl rfl ?_ rfl ?_|refine y3 ?_|refine y7 ?_ ?_|refine y4 ?_|(refine y9 ?_ ?_<;>intro h)|exact y5|fail)
      all_goals try first
       |exact hi1
       |(show 0<((i+1)::l).length;simp)
       |(show ldAt true (Tryz.prog.types[92]).size (ifB T1) (plus (plus 0 (times i (Tryz.prog.types[94]).size)) 0)=_;rw[hsp,hcat,plus_eq];exact hl3)
      all_goals refine CutR.at [0,1] rfl rfl ⟨VLe.refl _,VLe.refl _,VLe.refl _,VLe.refl _,VLe.refl _,trivial⟩ ⟨rfl,rfl,trivial⟩ rfl
    ·rw[if_neg (fun h=>h10 h.1)] at hA2'
     have hc1:A1.path=[]∧A1.me=cme∧A1.lo=clo∧A1.pa=(i:Int):=by rw[hA1];exact⟨rfl,rfl,rfl,rfl⟩
     obtain⟨asc,apath,ame,alo,apa⟩:=A1;obtain⟨r1,r2,r3,r4⟩:=hc1;simp only at r1 r2 r3 r4 hA2';subst r1;subst r2;subst r3;subst r4;by_cases h14:(p.getD i dN).op=14
     ·rw[if_pos h14,if_pos h14] at hA2'
      subst hA2'
      repeat'(first|exact y0|refine y1 ?_|refine y2 ?_ ?_|(refine y8 ?_ ?_<;>intro h<;>try exact y6)|refine y3 ?_|refine y7 ?_ ?_|refine y4 ?_|(refine y9 ?_ ?_<;>intro h)|exact y5|fail)
      all_goals refine CutR.at [0,1] rfl rfl ⟨VLe.refl _,VLe.refl _,VLe.refl _,VLe.refl _,VLe.refl _,trivial⟩ ⟨rfl,rfl,trivial⟩ rfl
     ·rw[if_neg h14,if_neg h14] at hA2'
      by_cases h32:(p.getD i dN).op=32
      ·rw[if_pos h32] at hA2'
       subst hA2'
       repeat'(first|exact y0|refine y1 ?_|refine y2 ?_ ?_|(refine y8 ?_ ?_<;>intro h<;>try exact y6)|refine y3 ?_|refine y7 ?_ ?_|refine y4 ?_|(refine y9 ?_ ?_<;>intro h)|exact y5|fail)
       all_goals refine CutR.at [0,1] rfl rfl ⟨VLe.refl _,VLe.refl _,VLe.refl _,VLe.refl _,VLe.refl _,trivial⟩ ⟨rfl,rfl,trivial⟩ rfl
      ·rw[if_neg h32] at hA2'
       subst hA2'
       repeat'(first|exact y0|refine y1 ?_|refine y2 ?_ ?_|(refine y8 ?_ ?_<;>intro h<;>try exact y6)|refine y3 ?_|refine y7 ?_ ?_|refine y4 ?_|(refine y9 ?_ ?_<;>intro h)|exact y5|fail)
       all_goals refine CutR.at [0,1] rfl rfl ⟨VLe.refl _,VLe.refl _,VLe.refl _,VLe.refl _,VLe.refl _,trivial⟩ ⟨rfl,rfl,trivial⟩ rfl
   ·refine⟨?_⟩
    clear hA2 hA1 hT1 hnm hprs hjn hja hTi hat
    repeat'(first|exact y0|refine y1 ?_|refine y2 ?_ ?_|(refine y8 ?_ ?_<;>intro h<;>try exact y6)|refine y3 ?_|refine y7 ?_ ?_|refine y4 ?_|(refine y9 ?_ ?_<;>intro h)|exact y5|fail)
    refine Ex.inv (σ:=Nat) (fun k=>[(16,nI k)]) (fun k=>[(0,some (ifB (setK T1 (ks.take k) A2))),(1,some {cells:=infC A2,ty:=94})]) (fun k=>k≤ks.length) (fun k=>ks.length-k) 0 rfl (fun _=>rfl) (Nat.zero_le _) ⟨VLe.refl _,trivial⟩ ⟨rfl,rfl,trivial⟩ ?_;intro k hk;by_cases hkl2:k<ks.length
    ·have hkb2:ks.getD k 0<p.length:=hkb _ (by rw[List.getD_eq_getElem?_getD,List.getElem?_eq_getElem hkl2];exact List.getElem_mem _)
     have hck:plus 0 (times (ks.getD k 0) (Tryz.prog.types[94]).size)=ks.getD k 0*7:=by rw[hsz,plus_eq,times_eq,Nat.zero_add]
     have hlk:(setK T1 (ks.take k) A2).length=p.length:=by rw[setK_len,hT1l]
     repeat'(first|exact y0|refine y1 ?_|refine y2 ?_ ?_|(refine y8 ?_ ?_<;>intro h<;>try exact y6)|refine RegX.sto [.cells ((setK T1 (ks.take (k+1)) A2).flatMap infC)] rfl rfl ⟨?_,?_⟩ rfl ?_|refine y3 ?_|refine y7 ?_ ?_|refine y4 ?_|(refine y9 ?_ ?_<;>intro h)|exact y5|fail)
     all_goals try first
      |omega
      |(show plus 0 (times (ks.getD k 0) (Tryz.prog.types[94]).size)+7≤((setK T1 (ks.take k) A2).flatMap infC).length;rw[hck,flatW infC_len,hlk];omega)
      |(show _=setL (ifB (setK T1 (ks.take k) A2)).cells (plus 0 (times (ks.getD k 0) (Tryz.prog.types[94]).size)) _;rw[hck,setK_take hkl2];exact (setL_all infC_len (q:=A2) (by rw[hlk];exact hkb2)).symm)
     refine LoopR.same (k+1) (by omega) (by omega) rfl ⟨VLe.of_eq (congrArg nI (by push_cast;rfl)),trivial⟩ ⟨rfl,rfl,trivial⟩ rfl rfl (by decide)
    ·rw[List.take_of_length_le (by omega),hst]
     repeat'(first|exact y0|refine y1 ?_|refine y2 ?_ ?_|(refine y8 ?_ ?_<;>intro h<;>try exact y6)|refine y3 ?_|refine y7 ?_ ?_|refine y4 ?_|(refine y9 ?_ ?_<;>intro h)|exact y5|fail)
     refine LoopR.same (i+1) (by omega) (by omega) rfl ⟨VLe.of_eq (congrArg nI (by push_cast;rfl)),trivial⟩ ⟨(show some (ifB Tn)=some (ifB (infT p t (i+1))) by rw[hTn]),trivial⟩ rfl rfl (by decide)
 ·have hi':i=p.length:=by omega
  subst hi';rw[←hs,infT_end,hs]
  have hl:(infL p t).length=p.length:=by simp[infL,hs]
  repeat'(first|exact y0|refine y1 ?_|refine y2 ?_ ?_|(refine y8 ?_ ?_<;>intro h<;>try exact y6)|refine Ex.fz 2 (fun k=>infC ((infL p t).getD k ini)) 7 rfl rfl rfl rfl (fun _ _=>infC_len _) (fun k j x hk hx=>⟨flat_get infC 7 ini infC_len (by rw[hl];exact hk) hx,infC_pure hx⟩) rfl rfl ?_|refine Fin.le (.inl rfl) rfl (VLe.of_eq (by unfold infV;rw[hl];rfl)) rfl|refine y3 ?_|refine y7 ?_ ?_|refine y4 ?_|(refine y9 ?_ ?_<;>intro h)|exact y5|fail)
end Go.Proofs.YtphdhedhhlfepaaGreatDoor
