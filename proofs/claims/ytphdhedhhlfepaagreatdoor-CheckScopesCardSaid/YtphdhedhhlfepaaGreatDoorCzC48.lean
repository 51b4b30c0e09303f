import Derived.Test.YtphdhedhhlfepaaGreatDoorCzC34
import Derived.Test.YtphdhedhhlfepaaGreatDoorCzC30
import Derived.Test.YtphdhedhhlfepaaGreatDoorCzC37
import Derived.Test.YtphdhedhhlfepaaGreatDoorCzC09
import Derived.Test.YtphdhedhhlfepaaGreatDoorCzC39
set_option linter.unusedSimpArgs false
set_option linter.unusedVariables false
namespace Go.Proofs.YtphdhedhhlfepaaGreatDoor
open Go Ab
set_option maxRecDepth 100000
def wrp (m:Nat):List Nd:=[⟨10,0,[],2⟩,⟨3,0,[92],0⟩,⟨4,0,[],m⟩]
def shG (G:Dgs):Dgs:=G.map fun d=>(d.1+3,d.2)
def shF (F:List (By×Nat)):List (By×Nat):=F.map fun x=>(x.1,x.2+3)
def shD (D:List Dc):List Dc:=D.map fun d=>⟨d.path,d.op,d.node+3⟩
def shS (A:List Pth) (s:St):St:=⟨A++s.S,shD s.D,shF s.F,shG s.G⟩
theorem shG_app (a b:Dgs):shG (a++b)=shG a++shG b:=by simp[shG]
theorem shF_lk (F:List (By×Nat)) (k:By):lkF (shF F) k=(lkF F k).map (·+3):=by
 induction F with
 |nil=>rfl
 |cons x F ih=>
  obtain⟨a,b⟩:=x;simp only[shF,List.map_cons,lkF];split
  ·rfl
  ·exact ih
theorem headS_sh (A:List Pth) (hA:A.length=3) (x:Nd) (nm:Pth) (i:Nat) (sc:Pth) (s:St):headS x nm (i+3) sc (shS A s)=((headS x nm i sc s).1,shS A (headS x nm i sc s).2):=by
 have hset:∀ q,(shS A s).sc (i+3) q=shS A (s.sc i q):=fun q=>by
  simp only[St.sc,shS,St.mk.injEq,and_true];rw[List.set_append_right _ _ (by omega),hA,Nat.add_sub_cancel]
 have hrep:∀ (u:St) c,(shS A u).rep (i+3) c=shS A (u.rep i c):=fun u c=>by simp[St.rep,shS,shG]
 have hdec:∀ (u:St) path op,(shS A u).dec (i+3) path op=shS A (u.dec i path op):=fun u path op=>by
  simp only[St.dec,shS,St.mk.injEq,true_and];refine⟨by simp[shD],?_,?_⟩
  ·unfold decF
   rw[shF_lk]
   cases lkF u.F path<;>simp[shF]
  ·unfold decG
   rw[shF_lk]
   cases lkF u.F path<;>simp[shG]
 unfold headS;rw[hset,hrep,hdec];split
 ·split<;>rfl
 ·split
  ·rfl
  ·split<;>rfl
theorem declS_sh (A:List Pth) (hA:A.length=3):∀ (b:Bool) (t:Fo) (i:Nat) (sc:Pth) (s:St),declS b t (i+3) sc (shS A s)=shS A (declS b t i sc s)
 |true,.nil,_,_,_=>rfl
 |false,.nil,_,_,_=>rfl
 |true,.cons x k n,i,sc,s=>by
  simp only[declS];rw[show i+3+1=(i+1)+3 by omega,show i+1+3+k.size=(i+1+k.size)+3 by omega,declS_sh A hA false k,declS_sh A hA true n]
  split<;>rfl
 |false,.cons x k n,i,sc,s=>by
  simp only[declS];rw[show i+3+1=(i+1)+3 by omega,show i+1+3+k.size=(i+1+k.size)+3 by omega,headS_sh A hA];simp only;rw[declS_sh A hA true k,←declS_sh A hA false n]
  split<;>rfl
theorem stmS_sh:∀ (m:Bool) (t:Fo) (i:Nat) (lp r:Bool) (G:Dgs),stmS m t (i+3) lp r (shG G)=shG (stmS m t i lp r G)
 |true,.nil,_,_,_,_=>rfl
 |false,.nil,_,_,_,_=>rfl
 |true,.cons x k n,i,lp,r,G=>by
  simp only[stmS];rw[show i+3+1=(i+1)+3 by omega,show i+1+3+k.size=(i+1+k.size)+3 by omega,stmS_sh false k,←stmS_sh true n]
  split<;>rfl
 |false,.cons x k n,i,lp,r,G=>by
  simp only[stmS]
  have e:stG2 x.op (i+3) lp (stG1 (i+3) r (shG G))=shG (stG2 x.op i lp (stG1 i r G)):=by
   unfold stG2 stG1
   split<;>split<;>simp[shG]
  rw[show i+3+1=(i+1)+3 by omega,show i+1+3+k.size=(i+1+k.size)+3 by omega,e,stmS_sh true k,stmS_sh true k,←stmS_sh false n];split
  ·rfl
  ·split<;>rfl
theorem kid_sh:∀ (t:Fo) (j i:Nat),t.kid (j+3) (i+3)=t.kid j i
 | .nil,_,_=>rfl
 | .cons x k n,j,i=>by
   simp only[Fo.kid];rw[show j+3+1=(j+1)+3 by omega,show j+1+3+k.size=(j+1+k.size)+3 by omega,kid_sh k,kid_sh n];simp only[Nat.add_right_cancel_iff,Nat.add_lt_add_iff_right]
section
variable {p:List Nd} {t:Fo} {W:List Nd} (hW:W.length=3)
include hW
theorem get_sh (i:Nat):(W++p).getD (i+3) dN=p.getD i dN:=by
 rw[List.getD_eq_getElem?_getD,List.getElem?_append_right (by omega),hW,Nat.add_sub_cancel,←List.getD_eq_getElem?_getD]
theorem getk_sh (i k:Nat):(W++p).getD (i+3+k) dN=p.getD (i+k) dN:=by rw[show i+3+k=(i+k)+3 by omega,get_sh hW]
theorem num_sh (i:Nat):numN (W++p) (i+3)=numN p i:=by unfold numN;rw[get_sh hW]
theorem numk_sh (i k:Nat):numN (W++p) (i+3+k)=numN p (i+k):=by unfold numN;rw[getk_sh hW]
theorem big_sh:∀ (K i:Nat),bigB (W++p) (i+3) K=bigB p i K
 |0,_=>rfl
 |K+1,i=>by
  simp only[bigB];rw[num_sh hW,show i+3+1=(i+1)+3 by omega,big_sh K]
theorem oor_sh (i:Nat):oorB (W++p) (i+3)=oorB p i:=by
 unfold oorB;rw[get_sh hW,numk_sh hW,numk_sh hW,numk_sh hW,numk_sh hW,getk_sh hW,show i+3+3=(i+3)+3 by omega,big_sh hW]
theorem At_sh:∀ {t:Fo} {i:Nat},t.At p i→t.At (W++p) (i+3)
 | .nil,_,_=>trivial
 | .cons x k n,i,⟨h1,h2,h3,h4⟩=>by
   refine⟨?_,h2,?_,?_⟩
   ·rw[List.getElem?_append_right (by omega),hW,Nat.add_sub_cancel];exact h1
   ·rw[show i+3+1=(i+1)+3 by omega];exact At_sh h3
   ·rw[show i+3+1+k.size=(i+1+k.size)+3 by omega];exact At_sh h4
theorem arg_sh (lim:Int):∀ (c j:Nat) (G:Dgs),argG (W++p) lim c (j+3) (shG G)=shG (argG p lim c j G)
 |0,_,_=>rfl
 |c+1,j,G=>by
  simp only[argG];rw[get_sh hW,num_sh hW,show j+3+1=(j+1)+3 by omega,←arg_sh lim c]
  split<;>simp[shG]
theorem met_sh (bl:Fo) (i:Nat) (G:Dgs):metG (W++p) bl (i+3) (shG G)=shG (metG p bl i G):=by
 unfold metG;rw[numk_sh hW,show i+3+5=(i+5)+3 by omega,show i+3+6=(i+6)+3 by omega,arg_sh hW,stmS_sh]
theorem units_sh (len w:Int):∀ (t:Fo) (i:Nat) (bit:Int) (G:Dgs),unitsG (W++p) len w t (i+3) bit (shG G)=shG (unitsG p len w t i bit G)
 | .nil,_,_,_=>rfl
 | .cons x k n,i,bit,G=>by
   simp only[unitsG];rw[oor_sh hW,numk_sh hW,numk_sh hW,show i+3+1+k.size=(i+1+k.size)+3 by omega,units_sh len w n];split
   ·rfl
   ·split
    ·rfl
    ·rw[←units_sh len w n]
     split<;>simp[shG]
theorem res_sh (F:List (By×Nat)) (op:Int):∀ cs:List Pth,(resF p F op cs= -1∧resF (W++p) (shF F) op cs= -1)∨∃ k:Nat,resF p F op cs=(k:Int)∧resF (W++p) (shF F) op cs=((k+3:Nat):Int)
 |[]=> .inl ⟨rfl,rfl⟩
 |c::cs=>by
  simp only[resF];rw[shF_lk]
  cases lkF F (fmtP c) with
  |none=>exact res_sh F op cs
  |some i=>
   simp only[Option.map_some,get_sh hW];split
   ·exact .inr ⟨i,rfl,rfl⟩
   ·exact .inl ⟨rfl,rfl⟩
theorem field_sh (F:List (By×Nat)) (sc:Pth) (bl:Fo) (i:Nat) (G:Dgs):fieldG (W++p) (shF F) sc bl (i+3) (shG G)=shG (fieldG p F sc bl i G):=by
 unfold fieldG;rw[getk_sh hW,oor_sh hW,numk_sh hW]
 rcases res_sh hW F 15 (candP sc (parseP (p.getD (i+1) dN).str).1) with ⟨h1,h2⟩|⟨k,h1,h2⟩<;>rw[h1,h2]
 ·rw[if_pos (by omega),if_pos (by omega)];simp[shG]
 ·rw[if_neg (show ¬((k+3:Nat):Int)<0 by omega),if_neg (show ¬((k:Nat):Int)<0 by omega),Int.toNat_natCast,Int.toNat_natCast,oor_sh hW,numk_sh hW,show i+3+5=(i+5)+3 by omega,units_sh hW]
  split<;>rfl
theorem node_sh (F:List (By×Nat)) (sc:Pth) (k:Fo) (i:Nat) (G:Dgs):nodeG (W++p) (shF F) sc k (i+3) (shG G)=shG (nodeG p F sc k i G):=by
 have hr:∀ op cs,resF (W++p) (shF F) op cs<0↔resF p F op cs<0:=fun op cs=>by
  rcases res_sh hW F op cs with ⟨h1,h2⟩|⟨k,h1,h2⟩<;>rw[h1,h2]<;>omega
 unfold nodeG;rw[get_sh hW,numk_sh hW,getk_sh hW,getk_sh hW,field_sh hW,met_sh hW];simp only[hr];split
 ·split<;>simp[shG]
 ·split
  ·rfl
  ·split
   ·split<;>simp[shG]
   ·split<;>rfl
theorem nodeE_sh (F:List (By×Nat)) (A T:List Pth) (hA:A.length=3) (tq:Fo) (i:Nat) (hk:tq.kid 0 (i+3)=t.kid 0 i):nodeE (W++p) (shF F) (A++T) tq (i+3)=shG (nodeE p F T t i):=by
 unfold nodeE;have h0:=node_sh hW F (T.getD i z0) (t.kid 0 i) i ([]:Dgs) (p:=p);rw[oor_sh hW,hk,shG_app,←h0];rw[List.getD_eq_getElem?_getD (l:=A++T),List.getElem?_append_right (by omega),hA,Nat.add_sub_cancel,←List.getD_eq_getElem?_getD];congr 1
 split<;>rfl
end
def wrT (t:Fo):Fo:=.cons ⟨10,0,[],2⟩ (.cons ⟨3,0,[92],0⟩ .nil (.cons ⟨4,0,[],t.cnt⟩ t .nil)) .nil
section
variable {p:List Nd} {t:Fo}
theorem wr_len (m:Nat):(wrp m).length=3:=rfl
theorem wr_at (ha:t.At p 0):(wrT t).At (wrp t.cnt++p) 0:=by
 have h:=At_sh (wr_len t.cnt) ha;exact⟨rfl,rfl,⟨rfl,rfl,trivial,rfl,rfl,h,trivial⟩,trivial⟩
theorem wr_v (hv:t.V (List.replicate t.cnt (false,68))):(wrT t).V (List.replicate (wrT t).cnt (false,68)):=by
 refine⟨⟨by decide,by decide,by decide⟩,?_,trivial⟩;rw[show slots (kindsB 10 2).1=[(false,110),(true,68)] by decide];exact⟨⟨by decide,by decide,by decide⟩,by rw[show slots (kindsB 3 0).1=[] by decide];trivial,⟨rfl,rfl,rfl⟩,hv,trivial⟩
theorem wr_size:(wrT t).size=t.size+3:=by simp only[wrT,Fo.size];omega
theorem kid_in {x:Nd} {k n:Fo} {j i:Nat} (h1: ¬i=j) (h2:i<j+1+k.size):(Fo.cons x k n).kid j i=k.kid (j+1) i:=by
 simp only[Fo.kid];rw[if_neg h1,if_pos h2]
theorem kid_out {x:Nd} {k n:Fo} {j i:Nat} (h1: ¬i=j) (h2: ¬i<j+1+k.size):(Fo.cons x k n).kid j i=n.kid (j+1+k.size) i:=by
 simp only[Fo.kid];rw[if_neg h1,if_neg h2]
theorem wr_kid {i:Nat} (hi:i<t.size):(wrT t).kid 0 (i+3)=t.kid 0 i:=by
 rw[←kid_sh t 0 i];unfold wrT;rw[kid_in (by omega) (by simp only[Fo.size];omega),kid_out (by omega) (by simp only[Fo.size];omega),kid_in (by simp only[Fo.size];omega) (by simp only[Fo.size];omega)];rfl
theorem flat_congr {α β:Type} {f g:α→List β}:∀ {l:List α},(∀ x∈l,f x=g x)→l.flatMap f=l.flatMap g
 |[],_=>rfl
 |x::l,h=>by
  rw[List.flatMap_cons,List.flatMap_cons,h x (List.mem_cons_self ..),flat_congr fun y hy=>h y (List.mem_cons_of_mem _ hy)]
def wrA:List Pth:=[⟨true,0,[]⟩,z0,z0]
theorem wr_an:anS (wrp t.cnt++p) (wrT t)=shS wrA (anS p t):=by
 have hj:joinP ⟨true,0,[]⟩ (nameF (.cons ⟨3,0,[92],0⟩ .nil (.cons ⟨4,0,[],t.cnt⟩ t .nil)))=(⟨true,0,[]⟩,true):=by
  show joinP ⟨true,0,[]⟩ (parseP [92]).1=_;rfl
 have h0:(st0 (wrp t.cnt++p)).sc 0 ⟨true,0,[]⟩=shS wrA (st0 p):=by
  simp only[St.sc,st0,shS,wrA,shD,shF,shG,List.map_nil,St.mk.injEq,and_true];rw[List.length_append,wr_len,Nat.add_comm,List.replicate_succ,List.replicate_succ,List.replicate_succ];rfl
 unfold anS;rw[←declS_sh wrA rfl,←h0];simp only[wrT,declS,headS,if_true,hj,show hasBl 10=true by decide,show ¬((3:Int)=4) by decide,if_false,Fo.size]
theorem wr_all (hs:t.size=p.length):allG (wrp t.cnt++p) (wrT t)=shG (allG p t):=by
 unfold allG;rw[wr_an,rowG_app,rowG_app,shG_app]
 have hl:(wrp t.cnt++p).length=p.length+1+1+1:=by rw[List.length_append,wr_len];omega
 rw[hl,List.range'_succ,List.range'_succ,List.range'_succ]
 have hz:∀ (i:Nat),i<3→nodeE (wrp t.cnt++p) (shS wrA (anS p t)).F (shS wrA (anS p t)).S (wrT t) i=[]:=fun i hi=>by
  have:i=0∨i=1∨i=2:=by omega
  rcases this with rfl|rfl|rfl
  all_goals
   unfold nodeE oorB nodeG;simp[wrp]
 simp only[List.flatMap_cons];rw[hz _ (by omega),hz _ (by omega),hz _ (by omega)];simp only[List.nil_append,Nat.zero_add]
 have hr:List.range' (1+1+1) p.length=(List.range' 0 p.length).map (·+3):=by
  rw[List.range'_eq_map_range,List.range'_eq_map_range,List.map_map]
  refine List.map_congr_left fun x _=>?_
  simp only[Function.comp];omega
 rw[hr];show shG (anS p t).G++_=_;congr 1;rw[List.flatMap_map];unfold shG;rw[List.map_flatMap]
 refine flat_congr fun i hi=>?_
 have:=List.mem_range'_1.1 hi;exact nodeE_sh (wr_len t.cnt) _ wrA _ rfl _ i (wr_kid (by omega))
theorem srt_sh (G:Dgs):srtD (shG G)=shG (srtD G):=by
 unfold srtD shG;rw[List.map_mergeSort];intro a _ b _
 have:ltOf cfD b a=ltOf cfD (b.1+3,b.2) (a.1+3,a.2):=by
  rw[Bool.eq_iff_iff,lt_cfD,lt_cfD];simp only;omega
 rw[this]
end
set_option maxRecDepth 100000
set_option maxHeartbeats 2000000
end Go.Proofs.YtphdhedhhlfepaaGreatDoor
namespace Go.Proofs.YtphdhedhhlfepaaGreatDoor
namespace Ab
open Go
def PLe (a b:S):Prop:=∀ (z:Nat→Option (List Value)) (x:Value),Pr z a x→Pr z b x
theorem PLe.refl (a:S):PLe a a:=fun _ _ h=>h
theorem PLe.frz {get get':Nat→List S} {sz n:Nat} (h:∀ i,i<n→(get' i).length=(get i).length∧∀ (j:Nat) (y:S),(get' i)[j]? =some y→∃ x,(get i)[j]? =some x∧PLe x y):PLe (.frz get sz n) (.frz get' sz n):=fun z x k=>by
 cases k with
 |nil get sz a c hk=>exact .nil _ _ _ _ hk
 |frz get sz n b o c vs h1 hn val hl hv hx=>
  exact .frz _ _ _ _ _ _ vs h1 hn val (fun i hi=>by rw[(h i hi).1];exact hl i hi)
   (fun i j y hi hg=>by obtain⟨x,hx',_⟩:=(h i hi).2 j y hg;exact hv i j x hi hx')
   (fun i j y hi hg=>by obtain⟨x,hx',p⟩:=(h i hi).2 j y hg;exact p _ _ (hx i j x hi hx'))
theorem PLe.sle {get get':Nat→List S} {sz n:Nat} (h:PLe (.frz get sz n) (.frz get' sz n)):SLe (.frz get sz n) (.frz get' sz n):=fun φ x k=>h φ.z x k
theorem SLe.frz1 {f g:Nat→S} {n:Nat} (h:∀ i,i<n→PLe (f i) (g i)):SLe (.frz (fun k=>[f k]) 1 n) (.frz (fun k=>[g k]) 1 n):=
 PLe.sle (PLe.frz fun i hi=>⟨rfl,fun j y hy=>by
  cases j with
  |zero=>cases hy;exact⟨_,rfl,h i hi⟩
  |succ j=>simp at hy⟩)
theorem PLe.get {get get':Nat→List S} {sz n:Nat} (h:∀ i,i<n→get i=get' i):PLe (.frz get sz n) (.frz get' sz n):=
 PLe.frz fun i hi=>⟨by rw[h i hi],fun j y hy=>⟨y,by rw[h i hi];exact hy,PLe.refl y⟩⟩
end Ab
end Go.Proofs.YtphdhedhhlfepaaGreatDoor
namespace Go.Proofs.YtphdhedhhlfepaaGreatDoor
open Go Ab
set_option maxRecDepth 100000
set_option maxHeartbeats 2000000
def pcS (p:List Nd) (q:Nat×Nat):S:=.frz (fun k=>ndC (p.getD (q.1+k) dN)) 4 q.2
def pcL (p:List Nd) (q:Nat×Nat):List Nd:=(p.drop q.1).take q.2
abbrev pcB (p:List Nd) (K:List (Nat×Nat)):Option Bl:=opB 22 1 1 (K.map (pcS p))
theorem pcL_len {p:List Nd} {q:Nat×Nat} (h:q.1+q.2≤p.length):(pcL p q).length=q.2:=by
 unfold pcL;rw[List.length_take,List.length_drop];omega
theorem pc_le {p:List Nd} {q:Nat×Nat} (h:q.1+q.2≤p.length):PLe (pcS p q) (nS (pcL p q)):=by
 unfold pcS nS;rw[pcL_len h]
 refine PLe.get fun i hi=>?_
 unfold pcL;rw[List.getD_eq_getElem?_getD,List.getD_eq_getElem?_getD,List.getElem?_take_of_lt hi,List.getElem?_drop]
inductive Pcs (p:List Nd):Nat→List (Nat×Nat)→Nat→Prop
 |nil (i:Nat):Pcs p i [] i
 |snoc {i j n:Nat} {K:List (Nat×Nat)} (h:Pcs p i K j) (hn:0<n) (hb:j+n≤p.length):Pcs p i (K++[(j,n)]) (j+n)
theorem Pcs.flat {p:List Nd} {i j:Nat} {K:List (Nat×Nat)} (h:Pcs p i K j):i≤j∧p.take i++(K.map (pcL p)).flatten=p.take j∧(∀ q∈K,0<q.2∧q.1+q.2≤p.length):=by
 induction h with
 |nil=>exact⟨Nat.le_refl _,by simp,by simp⟩
 | @snoc j n K h hn hb ih=>
   obtain⟨h1,h2,h3⟩:=ih;refine⟨by omega,?_,?_⟩
   ·rw[List.map_append,List.flatten_append,←List.append_assoc,h2]
    simp only[List.map_cons,List.map_nil,List.flatten_cons,List.flatten_nil,List.append_nil];unfold pcL;rw[←List.take_append_drop j (p.take (j+n)),List.take_take,Nat.min_eq_left (by omega),List.drop_take,Nat.add_sub_cancel_left]
   ·intro q hq
    rcases List.mem_append.1 hq with hq|hq
    ·exact h3 q hq
    ·rw[List.mem_singleton.1 hq];exact⟨hn,hb⟩
theorem End_c (p:List Nd) (hw:wfS p) (hvn:validN p=true) (hp:p.length≤2048) (i e:Nat) (h:Ends p e 1 i):FC Tryz.prog 17 [nodes p,nI i] 0 [] (nI e) 0 []:=by
 have he:=endR_c p hp i e h;have hvr:=validR_all p hw;rw[hvn] at hvr
 have hil:i<p.length:=by cases h;assumption
 refine FC.walk (by kernel_rfl) Tryz.func17 rfl rfl ?_
 repeat'(first|exact y0|refine y1 ?_|refine y2 ?_ ?_|(refine y8 ?_ ?_<;>intro h<;>try exact y6)|(refine wC ?_;first|refine wF 45 (pu he ?_)|refine wF 20 (pu hvr ?_))|refine Fin.int (.inl rfl) rfl ?_|refine y3 ?_|refine y7 ?_ ?_|refine y4 ?_|(refine y9 ?_ ?_<;>intro h)|exact y5|fail)
 all_goals rfl
theorem chain_lt {p:List Nd} {f:Nat}:∀ {i:Nat} {cs:List Nat},Chain p f i cs→i≤f
 |_,_,.nil=>Nat.le_refl _
 |_,_,.cons h r=>by have:=h.le.1;have:=chain_lt r;omega
theorem dec_len {p:List Nd} {t:Fo} (ha:t.At p 0) (hv:t.V (List.replicate t.cnt (false,68))) (hp:p.length≤2048):(anS p t).D.length≤2048:=by
 have hsz:=At.size_le (Nat.zero_le _) ha;rw[D_eq ha hv,List.length_map];have:=List.length_filter_le (fun i=>decide (pathT p t i≠[])) (List.range t.size);rw[List.length_range] at this;unfold dclI;omega
theorem scopes_c (l:List Int) (hl:l.length≤20000000000000):FC Tryz.prog 7 [.s (chF l)] 0 [] (bV true) 0 []:=by
 obtain⟨p,hpg,hprog⟩:=program_e l hl;have haw:=awake_c;obtain⟨hp,t,ha,hv,hd,hs⟩:=valid_forest hpg.v
 have hwS:wfS p:=fun x hx=>by have:=(hpg.wf x hx).1;omega
 have hwN:=hpg.wfN;have hwI:=hpg.wfI;have hck:FC Tryz.prog 16 [nodes p] 0 [] (dgsV (srtD (allG p t))) 0 []:=check_yes p hwN hwI hpg.v hp t ha hv hs;have hdc:=decl_yes p hwN hpg.v hp t ha hv hs;have hGl:=allG_len hp ha hv hs
 have hch:Chain p p.length 0 (t.starts 0):=by have:=At.chain ha;rwa [Nat.zero_add,hs] at this
 have hcnt:=t.cnt_le
 have hsz:(Tryz.prog.types[22]).size=1:=by kernel_rfl
 have hby:(Tryz.prog.types[22]).bytes=24:=by kernel_rfl
 refine FC.walk (by kernel_rfl) Tryz.func7 rfl rfl ?_
 repeat'(first|exact y0|refine y1 ?_|refine y2 ?_ ?_|(refine y8 ?_ ?_<;>intro h<;>try exact y6)|(refine wC ?_;first|refine wF 11 (pu hprog ?_))|refine y3 ?_|refine y7 ?_ ?_|refine y4 ?_|(refine y9 ?_ ?_<;>intro h)|exact y5|fail)
 refine Ex.set 4 (.s (.row 0 1 0)) (VLe.s SLe.nilrow) rfl (Ex.upN (n':=2) (by decide) ?_);refine Ex.inv (σ:=Nat×List (Nat×Nat)) (fun s=>[(4,.s (.row 0 1 s.2.length)),(5,nI s.1)]) (fun s=>[(0,pcB p s.2)]) (fun s=>∃ cs,Chain p p.length s.1 cs∧Pcs p 0 s.2 s.1∧s.2.length+cs.length=t.cnt) (fun s=>p.length-s.1) (0,[]) rfl (fun _=>rfl) ⟨_,hch,.nil 0,by simp[starts_len]⟩ ⟨VLe.refl _,VLe.refl _,trivial⟩ trivial ?_;rintro⟨i,K⟩ ⟨cs,hC,hP,hcl⟩;simp only at hC hP hcl ⊢
 cases hC with
 | @cons _ e rest h r=>
   have hel:=h.le;have hef:=chain_lt r;have hend:=End_c p hwS hpg.v hp i e h;simp only[List.length_cons] at hcl
   have hlp:i<p.length:=by omega
   have hpl:i+(e-i)≤p.length:=by omega
   repeat'(first|exact y0|refine y1 ?_|refine y2 ?_ ?_|(refine y8 ?_ ?_<;>intro h<;>try exact y6)|(refine wC ?_;first|refine wF 17 (pu hend ?_))|refine RegX.apr (i:=0) (g:=1) (m:=K.length) (w:=1) (cs:=K.map (pcS p)) (foot:=[2]) (k:=1) (add:=[pcS p (i,e-i)]) rfl rfl (by simp) rfl rfl rfl rfl rfl rfl rfl hsz (by decide) rfl ⟨Nat.le_refl _,rfl⟩ (by decide) (by simp) rfl (by rw[hby];omega) (by omega) rfl ?_|refine y3 ?_|refine y7 ?_ ?_|refine y4 ?_|(refine y9 ?_ ?_<;>intro h)|exact y5|fail)
   all_goals try omega
   refine LoopR.move (e,K++[(i,e-i)]) ⟨rest,r,by have:=Pcs.snoc hP (show 0<e-i by omega) hpl;rwa [show i+(e-i)=e by omega] at this,by simp only[List.length_append,List.length_cons,List.length_nil];omega⟩ (by simp only;omega) [3,4] rfl ?_ ?_ ?_
   ·repeat' (first|exact VLe.refl _|exact VLe.any _|exact True.intro|exact VLe.of_eq (congrArg nI (by push_cast;omega))|(refine VLe.of_eq (congrArg V.s (?_:S.row 3 4 _=S.row 3 4 _));simp;done)|refine⟨?_,?_⟩)
   ·refine MemP.op ?_ trivial
    rw[List.map_append];rfl
   ·unfold pcB;generalize List.map (pcS p) _=cg;cases cg<;>rfl
 |nil=>
  obtain⟨-,hfl,hpos⟩:=hP.flat;rw[List.take_zero,List.nil_append,List.take_length] at hfl
  have hKl:K.length=t.cnt:=by simpa using hcl
  have hn0:=nameOf_c [92]
  obtain⟨KL,hKLe⟩:∃ KL,KL=K.map (pcL p):=⟨_,rfl⟩
  have hKLl:KL.length=K.length:=by rw[hKLe,List.length_map]
  have hOK:∀ r∈KL,OKr 2048 r:=by
   rw[hKLe];intro r hr;obtain⟨q,hq,rfl⟩:=List.mem_map.1 hr;have h1:=hpos q hq;have h2:=pcL_len h1.2;refine⟨fun e=>by rw[e] at h2;simp at h2;omega,by omega,fun x hx=>hpg.wf x (List.mem_of_mem_drop (List.mem_of_mem_take hx))⟩
  have hd4:=node_n 4 KL hOK (by rw[hKLl];omega) (by rw[hKLl];omega);have ho3:OKr 4096 (tree 3 0 [92] []):=(OKr.leaf (by decide) (by decide)).le (by decide)
  have hfl':KL.flatten=p:=by rw[hKLe];exact hfl
  have ho4:OKr 4096 (tree 4 0 [] KL):=⟨by simp[tree],by simp only[tree,List.length_cons,hfl'];omega,fun x hx=>by
   rcases List.mem_cons.1 hx with rfl|hx
   ·exact⟨by simp,Int.le_refl 0⟩
   ·rw[hfl'] at hx;exact hpg.wf x hx⟩
  have hd10:=node_n 10 [tree 3 0 [92] [],tree 4 0 [] KL] (B:=4096) (by simp[ho3,ho4]) (by simp) (by simp)
  obtain⟨q,hq⟩:∃ q,q=tree 10 0 [] [tree 3 0 [92] [],tree 4 0 [] KL]:=⟨_,rfl⟩
  rw[←hq] at hd10;unfold kidF at hd10
  have hqw:q=wrp t.cnt++p:=by
   rw[hq];simp only[tree,wrp,List.flatten_cons,List.flatten_nil,List.append_nil,hfl',hKLl,hKl];rfl
  have hkid:SLe (.frz (fun k=>[pcS p (K.getD k (0,0))]) 1 K.length) (kidF KL):=by
   unfold kidF;rw[hKLl]
   refine SLe.frz1 fun i hi=>?_
   have:KL.getD i []=pcL p (K.getD i (0,0)):=by
    rw[hKLe,List.getD_eq_getElem?_getD,List.getElem?_map,List.getD_eq_getElem?_getD,List.getElem?_eq_getElem hi];rfl
   rw[this];refine pc_le ?_;rw[List.getD_eq_getElem?_getD,List.getElem?_eq_getElem hi];exact (hpos _ (List.getElem_mem hi)).2
  have hqS:wfS q:=by
   rw[hqw];intro x hx
   rcases List.mem_append.1 hx with hx|hx
   ·simp only[wrp,List.mem_cons,List.not_mem_nil,or_false] at hx
    rcases hx with rfl|rfl|rfl<;>simp
   ·exact hwS x hx
  have hqI:wfI q:=by
   rw[hqw];intro x hx
   rcases List.mem_append.1 hx with hx|hx
   ·simp only[wrp,List.mem_cons,List.not_mem_nil,or_false] at hx
    rcases hx with rfl|rfl|rfl<;>simp
   ·exact hwI x hx
  have hvr:=validR_all q hqS;clear hfl hfl' hd hch;have hb4:okV 0 (V.s (kidF KL))=true:=rfl;generalize hq3:tree 3 0 [92] []=q3 at*;generalize hq4:tree 4 0 [] KL=q4 at*
  cases hvq:validN q<;>rw[hvq] at hvr
  ·rcases K with _|⟨y,K⟩
   all_goals
    repeat'(first|exact y0|refine y1 ?_|refine y2 ?_ ?_|(refine y8 ?_ ?_<;>intro h<;>try exact y6)|(refine wC ?_;first|refine wF 19 (pu hn0 ?_)|(refine wF 18 ?_;refine CallG.we hd4 rfl ⟨VLe.refl _,VLe.s (fun φ x h=>hkid φ x (SLe.row0 φ x h)),trivial⟩ rfl rfl rfl ?_)|(refine wF 18 ?_;refine CallG.pl (pcS p) (0,0) (y::K) (fun _ _=>rfl) hd4 rfl rfl rfl rfl rfl rfl rfl rfl ⟨VLe.refl _,VLe.s hkid,trivial⟩ rfl rfl rfl ?_)|(refine wF 18 ?_;refine CallG.pl nS [] [q3,q4] (fun _ _=>rfl) hd10 rfl rfl rfl rfl rfl rfl rfl rfl ⟨VLe.refl _,VLe.refl _,trivial⟩ rfl rfl rfl ?_)|refine wF 20 (bo hvr ?_)|refine wF 9 (pu haw ?_))|refine Fin.bool (.inl rfl) rfl ?_|refine y3 ?_|refine y7 ?_ ?_|refine y4 ?_|(refine y9 ?_ ?_<;>intro h)|exact y5|fail)
    all_goals rfl
  ·obtain⟨hpq,_,_,_,_,_⟩:=valid_forest hvq
   have hqN:wfN q:=fun x hx=>by have:=hqS x hx;omega
   have hqt:(wrT t).size=q.length:=by rw[wr_size,hs,hqw,List.length_append,wr_len];omega
   have hckq:FC Tryz.prog 16 [nodes q] 0 [] (dgsV (srtD (allG q (wrT t)))) 0 []:=check_yes q hqN hqI hvq hpq (wrT t) (hqw▸wr_at ha) (wr_v hv) hqt;have hdcq:=decl_yes q hqN hvq hpq (wrT t) (hqw▸wr_at ha) (wr_v hv) hqt;rw[hqw,wr_all hs,srt_sh,←hqw] at hckq
   have hdq:(anS q (wrT t)).D=shD (anS p t).D:=by rw[hqw,wr_an];rfl
   rw[hdq] at hdcq;have hDl:(anS p t).D.length≤2048:=dec_len ha hv hp
   have hGb:∀ i,i<(srtD (allG p t)).length→((srtD (allG p t)).getD i (0,0)).1<2048:=fun i hi=>by
    rw[List.getD_eq_getElem?_getD,List.getElem?_eq_getElem hi];have:=node_lt ha hv hs ((srtD_perm (allG p t)).mem_iff.1 (List.getElem_mem hi));simp only[Option.getD_some];omega
   have hDb:∀ i,i<(anS p t).D.length→((anS p t).D.getD i dD).node<2048:=fun i hi=>by
    rw[List.getD_eq_getElem?_getD,List.getElem?_eq_getElem hi]
    have h:(anS p t).D[i]∈(dclI p t).map (dclN p t):=by rw[←D_eq ha hv];exact List.getElem_mem hi
    obtain⟨j,hj,he⟩:=List.mem_map.1 h;have:=(mem_dclI.1 hj).1;simp only[Option.getD_some];rw[←he];show j<2048;omega
   generalize (anS p t).D=D at*;generalize srtD (allG p t)=G at*
   have hGs:(shG G).length=G.length:=by simp[shG]
   have hDs:(shD D).length=D.length:=by simp[shD]
   rcases K with _|⟨y,K⟩
   all_goals
    repeat'(first|exact y0|refine y1 ?_|refine y2 ?_ ?_|(refine y8 ?_ ?_<;>intro h<;>try exact y6)|(refine wC ?_;first|refine wF 19 (pu hn0 ?_)|(refine wF 18 ?_;refine CallG.we hd4 rfl ⟨VLe.refl _,VLe.s (fun φ x h=>hkid φ x (SLe.row0 φ x h)),trivial⟩ rfl rfl rfl ?_)|(refine wF 18 ?_;refine CallG.pl (pcS p) (0,0) (y::K) (fun _ _=>rfl) hd4 rfl rfl rfl rfl rfl rfl rfl rfl ⟨VLe.refl _,VLe.s hkid,trivial⟩ rfl rfl rfl ?_)|(refine wF 18 ?_;refine CallG.pl nS [] [q3,q4] (fun _ _=>rfl) hd10 rfl rfl rfl rfl rfl rfl rfl rfl ⟨VLe.refl _,VLe.refl _,trivial⟩ rfl rfl rfl ?_)|refine wF 20 (bo hvr ?_)|refine wF 9 (pu haw ?_)|refine wF 16 (pu hck ?_)|refine wF 16 (pu hckq ?_)|refine wF 15 (pu hdc ?_)|refine wF 15 (pu hdcq ?_))|refine Fin.bool (.inl rfl) rfl ?_|refine y3 ?_|refine y7 ?_ ?_|refine y4 ?_|(refine y9 ?_ ?_<;>intro h)|exact y5|fail)
    refine Ex.inv (σ:=Nat) (fun i=>[(11,nI i)]) (fun _=>[]) (fun i=>i≤G.length) (fun i=>G.length-i) 0 rfl (fun _=>rfl) (Nat.zero_le _) ⟨VLe.refl _,trivial⟩ trivial ?_;intro i hi
    rcases Nat.lt_or_ge i G.length with hil|hil
    ·have hgb:=hGb i hil
     have hx:(shG G).getD i (0,0)=((G.getD i (0,0)).1+3,(G.getD i (0,0)).2):=by
      unfold shG;rw[List.getD_eq_getElem?_getD,List.getElem?_map,List.getD_eq_getElem?_getD,List.getElem?_eq_getElem hil];rfl
     repeat'(first|exact y0|refine y1 ?_|refine y2 ?_ ?_|(refine y8 ?_ ?_<;>intro h<;>try exact y6)|refine y3 ?_|refine y7 ?_ ?_|refine y4 ?_|(refine y9 ?_ ?_<;>intro h)|exact y5|fail)
     refine RegX.atCmp (CmpG.go rfl rfl ⟨⟨by kernel_rfl,by kernel_rfl⟩,trivial⟩ (BrG.any (fun h=>?_) (fun h=>?_)))
     ·exfalso;rw[hx] at h;simp at h
     ·
      repeat'(first|exact y0|refine y1 ?_|refine y2 ?_ ?_|(refine y8 ?_ ?_<;>intro h<;>try exact y6)|refine y3 ?_|refine y7 ?_ ?_|refine y4 ?_|(refine y9 ?_ ?_<;>intro h)|exact y5|fail)
      all_goals try omega
      refine LoopR.same (i+1) (by omega) (by omega) rfl ⟨VLe.of_eq (congrArg nI (by push_cast;omega)),trivial⟩ trivial rfl rfl (by decide)
    ·obtain rfl:i=G.length:=by omega
     repeat'(first|exact y0|refine y1 ?_|refine y2 ?_ ?_|(refine y8 ?_ ?_<;>intro h<;>try exact y6)|refine y3 ?_|refine y7 ?_ ?_|refine y4 ?_|(refine y9 ?_ ?_<;>intro h)|exact y5|fail)
     refine Ex.inv (σ:=Nat) (fun i=>[(12,nI i)]) (fun _=>[]) (fun i=>i≤D.length) (fun i=>D.length-i) 0 rfl (fun _=>rfl) (Nat.zero_le _) ⟨VLe.refl _,trivial⟩ trivial ?_;clear hi hil;intro i hi
     rcases Nat.lt_or_ge i D.length with hil|hil
     ·have hdb:=hDb i hil
      have hx:(shD D).getD i dD=⟨(D.getD i dD).path,(D.getD i dD).op,(D.getD i dD).node+3⟩:=by
       unfold shD;rw[List.getD_eq_getElem?_getD,List.getElem?_map,List.getD_eq_getElem?_getD,List.getElem?_eq_getElem hil];rfl
      repeat'(first|exact y0|refine y1 ?_|refine y2 ?_ ?_|(refine y8 ?_ ?_<;>intro h<;>try exact y6)|refine y3 ?_|refine y7 ?_ ?_|refine y4 ?_|(refine y9 ?_ ?_<;>intro h)|exact y5|fail)
      refine RegX.atCmp (CmpG.go rfl rfl ⟨⟨by kernel_rfl,by kernel_rfl⟩,trivial⟩ (BrG.any (fun h=>?_) (fun h=>?_)))
      ·exfalso;rw[hx] at h;simp at h
      ·
       repeat'(first|exact y0|refine y1 ?_|refine y2 ?_ ?_|(refine y8 ?_ ?_<;>intro h<;>try exact y6)|refine y3 ?_|refine y7 ?_ ?_|refine y4 ?_|(refine y9 ?_ ?_<;>intro h)|exact y5|fail)
       all_goals try omega
       refine LoopR.same (i+1) (by omega) (by omega) rfl ⟨VLe.of_eq (congrArg nI (by push_cast;omega)),trivial⟩ trivial rfl rfl (by decide)
     ·obtain rfl:i=D.length:=by omega
      repeat'(first|exact y0|refine y1 ?_|refine y2 ?_ ?_|(refine y8 ?_ ?_<;>intro h<;>try exact y6)|refine Fin.bool (.inl rfl) rfl ?_|refine y3 ?_|refine y7 ?_ ?_|refine y4 ?_|(refine y9 ?_ ?_<;>intro h)|exact y5|fail)
      all_goals rfl
end Go.Proofs.YtphdhedhhlfepaaGreatDoor
