import Derived.Test.YtphdhedhhlfepaaGreatDoorCzC19
import Derived.Test.YtphdhedhhlfepaaGreatDoorCzC11
set_option linter.unusedSimpArgs false
set_option linter.unusedVariables false
namespace Go.Proofs.YtphdhedhhlfepaaGreatDoor
open Go Ab
set_option maxRecDepth 100000
set_option maxHeartbeats 1000000
def dgC (x:Nat×Nat):List S:=[.int .i64 (x.1:Int),.int .i64 (x.2:Int)]
structure Dc where
 path:By
 op:Int
 node:Nat
def dcC (x:Dc):List S:=[.str x.path,.int .i64 x.op,.int .i64 (x.node:Int)]
abbrev anB (p:List Nd) (d nD g nG:Nat):Bl:=
 {cells:=[.frz (fun k=>ndC (p.getD k dN)) 4 p.length,.slc (some (1,0)) p.length (some p.length),.row d (d+1) nD,.map (some 5),.row g (g+1) nG],ty:=67}
abbrev dgB (g:Nat) (G:List (Nat×Nat)):Option Bl:=opB 42 (g+1) 2 (G.flatMap dgC)
abbrev dcB (d:Nat) (D:List Dc):Option Bl:=opB 40 (d+1) 3 (D.flatMap dcC)
theorem dg_len:∀ G:List (Nat×Nat),(G.flatMap dgC).length=G.length*2
 |[]=>rfl
 |x::G=>by rw[List.flatMap_cons,List.length_append,dg_len G];simp only[List.length_cons];simp[dgC];omega
theorem dc_len:∀ D:List Dc,(D.flatMap dcC).length=D.length*3
 |[]=>rfl
 |x::D=>by rw[List.flatMap_cons,List.length_append,dc_len D];simp only[List.length_cons];simp[dcC];omega
theorem dg_push (G:List (Nat×Nat)) (x:Nat×Nat):(G++[x]).flatMap dgC=G.flatMap dgC++dgC x:=by rw[List.flatMap_append];simp
theorem dc_push (D:List Dc) (x:Dc):(D++[x]).flatMap dcC=D.flatMap dcC++dcC x:=by rw[List.flatMap_append];simp
theorem report_c (p:List Nd) (nD:Nat) (G:List (Nat×Nat)) (i c:Nat) (hG:G.length≤1000000000000):
 FC Tryz.prog 39 [.s (.ptr (some (0,0))),nI i,nI c] 8 [(0,some (anB p 3 nD 6 G.length)),(6,dgB 6 G)] .any 10 [(0,some (anB p 3 nD 8 (G.length+1))),(6,none),(8,dgB 8 (G++[(i,c)]))]:=by
 have hsz:(Tryz.prog.types[42]).size=2:=by kernel_rfl
 have hby:(Tryz.prog.types[42]).bytes=16:=by kernel_rfl
 rw[dgB,dgB,dg_push];refine FC.walk (by kernel_rfl) Tryz.func39 rfl rfl ?_
 repeat'(first|exact y0|refine y1 ?_|refine y2 ?_ ?_|(refine y8 ?_ ?_<;>intro h<;>try exact y6)|refine y3 ?_|refine y7 ?_ ?_|refine y4 ?_|(refine y9 ?_ ?_<;>intro h)|exact y5|fail)
 ·refine RegX.apr (i:=6) (g:=7) (m:=G.length) (w:=2) (cs:=G.flatMap dgC) (foot:=[8]) (k:=1) (add:=dgC (i,c)) rfl rfl (dg_len G) rfl rfl rfl rfl rfl rfl rfl hsz (by decide) rfl ⟨Nat.le_refl _,rfl⟩ (by decide) (by simp[dgC]) rfl ?_ (by omega) rfl ?_
  ·rw[hby];omega
  repeat'(first|exact y0|refine y1 ?_|refine y2 ?_ ?_|(refine y8 ?_ ?_<;>intro h<;>try exact y6)|refine y3 ?_|refine y7 ?_ ?_|refine y4 ?_|(refine y9 ?_ ?_<;>intro h)|exact y5|fail)
  refine⟨.inr rfl,.tup [],[9,10],VLe.any _,EndOK.by rfl ?_ rfl ?_ rfl rfl⟩
  ·refine⟨rfl,MemP.op rfl trivial⟩
  ·refine (okH_op rfl rfl rfl)
def decF (F:List (By×Nat)) (path:By) (i:Nat):List (By×Nat):=match lkF F path with|some _=>F|none=>F++[(path,i)]
def decG (F:List (By×Nat)) (G:List (Nat×Nat)) (path:By) (i:Nat):List (Nat×Nat):=match lkF F path with|some _=>G++[(i,3)]|none=>G
theorem declare_c (p:List Nd) (D:List Dc) (F:List (By×Nat)) (G:List (Nat×Nat)) (i:Nat) (path:By) (hi:i<p.length) (hD:D.length≤1000000000000) (hG:G.length≤1000000000000):
 FC Tryz.prog 99 [.s (.ptr (some (0,0))),nI i,sV path] 8 [(0,some (anB p 3 D.length 6 G.length)),(3,dcB 3 D),(5,some (mapB F)),(6,dgB 6 G)] .any 12
  [(0,some (anB p 8 (D.length+1) 10 (decG F G path i).length)),(3,none),(6,none),(5,some (mapB (decF F path i))),(8,dcB 8 (D++[⟨path,(p.getD i dN).op,i⟩])),(10,dgB 10 (decG F G path i))]:=by
 have hsz:(Tryz.prog.types[40]).size=3:=by kernel_rfl
 have hby:(Tryz.prog.types[40]).bytes=32:=by kernel_rfl
 have hzr:∀ w,(zeroValue 3).run Tryz.prog w=.ok (.int .i64 0) w:=fun w=>by rw[Tryz.zeroValue3]
 rw[dcB,dcB,dc_push];refine FC.walk (by kernel_rfl) Tryz.func99 rfl rfl ?_
 cases hl:lkF F path with
 |some v=>
  have e1:decF F path i=F:=by unfold decF;rw[hl]
  have e2:decG F G path i=G++[(i,3)]:=by unfold decG;rw[hl]
  rw[e1,e2,List.length_append,List.length_singleton]
  repeat'(first|exact y0|refine y1 ?_|refine y2 ?_ ?_|(refine y8 ?_ ?_<;>intro h<;>try exact y6)|refine RegX.lkp (some v) rfl rfl rfl rfl rfl hzr hl rfl ?_|refine y3 ?_|refine y7 ?_ ?_|refine y4 ?_|(refine y9 ?_ ?_<;>intro h)|exact y5|fail)
  refine RegX.atCall (CallG.mo [0,1,2,3,4,5,6,7] (report_c p D.length G i 3 hG) rfl (okH_op rfl rfl rfl) rfl rfl rfl ⟨VLe.refl _,VLe.refl _,VLe.refl _,trivial⟩ ⟨⟨rfl,_,rfl,rfl,fun h=>h⟩,FitP.op rfl rfl trivial⟩ rfl rfl (wr:=[(0,some (anB p 3 D.length 8 (G.length+1))),(6,none),(8,dgB 8 (G++[(i,3)]))]) ?_ ?_)
  ·show [_,_,_]=_;rw[renO_op];rfl
  repeat'(first|exact y0|refine y1 ?_|refine y2 ?_ ?_|(refine y8 ?_ ?_<;>intro h<;>try exact y6)|refine y3 ?_|refine y7 ?_ ?_|refine y4 ?_|(refine y9 ?_ ?_<;>intro h)|exact y5|fail)
  all_goals try omega
  refine RegX.apr (i:=3) (g:=4) (m:=D.length) (w:=3) (cs:=D.flatMap dcC) (foot:=[10]) (k:=1) (add:=dcC ⟨path,(p.getD i dN).op,i⟩) rfl rfl (dc_len D) rfl rfl rfl rfl rfl rfl rfl hsz (by decide) rfl ⟨Nat.le_refl _,rfl⟩ (by decide) (by simp[dcC]) rfl ?_ (by omega) rfl ?_
  ·rw[hby];omega
  repeat'(first|exact y0|refine y1 ?_|refine y2 ?_ ?_|(refine y8 ?_ ?_<;>intro h<;>try exact y6)|refine y3 ?_|refine y7 ?_ ?_|refine y4 ?_|(refine y9 ?_ ?_<;>intro h)|exact y5|fail)
  refine⟨.inr rfl,.tup [],[11,12,8,9],VLe.any _,EndOK.by rfl ?_ rfl ?_ rfl rfl⟩
  ·exact⟨rfl,rfl,MemP.op rfl (MemP.op rfl trivial)⟩
  ·exact okH_op (t:=[(10,dgB 10 (G++[(i,3)]))]) rfl rfl (okH_op rfl rfl rfl)
 |none=>
  have e1:decF F path i=F++[(path,i)]:=by unfold decF;rw[hl]
  have e2:decG F G path i=G:=by unfold decG;rw[hl]
  rw[e1,e2]
  repeat'(first|exact y0|refine y1 ?_|refine y2 ?_ ?_|(refine y8 ?_ ?_<;>intro h<;>try exact y6)|refine RegX.lkp none rfl rfl rfl rfl rfl hzr hl rfl ?_|refine RegX.mup i rfl rfl rfl rfl rfl rfl rfl hl rfl ?_|refine y3 ?_|refine y7 ?_ ?_|refine y4 ?_|(refine y9 ?_ ?_<;>intro h)|exact y5|fail)
  all_goals try omega
  refine RegX.apr (i:=3) (g:=4) (m:=D.length) (w:=3) (cs:=D.flatMap dcC) (foot:=[8]) (k:=1) (add:=dcC ⟨path,(p.getD i dN).op,i⟩) rfl rfl (dc_len D) rfl rfl rfl rfl rfl rfl rfl hsz (by decide) rfl ⟨Nat.le_refl _,rfl⟩ (by decide) (by simp[dcC]) rfl ?_ (by omega) rfl ?_
  ·rw[hby];omega
  repeat'(first|exact y0|refine y1 ?_|refine y2 ?_ ?_|(refine y8 ?_ ?_<;>intro h<;>try exact y6)|refine y3 ?_|refine y7 ?_ ?_|refine y4 ?_|(refine y9 ?_ ?_<;>intro h)|exact y5|fail)
  refine⟨.inr rfl,.tup [],[9,10,6,7],VLe.any _,EndOK.move rfl ?_ rfl ?_ rfl ?_ ?_⟩
  ·exact⟨rfl,rfl,MemP.op rfl (MemP.op rfl trivial)⟩
  ·exact okH_op (t:=[(10,dgB 10 G)]) rfl rfl (okH_op rfl rfl rfl)
  ·rcases G with _|⟨x,G⟩<;>rcases D with _|⟨y,D⟩<;>rfl
  ·rcases G with _|⟨x,G⟩<;>rcases D with _|⟨y,D⟩<;>rfl
set_option maxRecDepth 100000
structure St where
 S:List Pth
 D:List Dc
 F:List (By×Nat)
 G:List (Nat×Nat)
def St.rep (s:St) (i c:Nat):St:={s with G:=s.G++[(i,c)]}
def St.dec (s:St) (i:Nat) (path:By) (op:Int):St:={S:=s.S,D:=s.D++[⟨path,op,i⟩],F:=decF s.F path i,G:=decG s.F s.G path i}
def St.sc (s:St) (i:Nat) (sc:Pth):St:={s with S:=s.S.set i sc}
def nameF:Fo→Pth
 | .cons y _ _=>(parseP y.str).1
 | .nil=>z0
def headS (x:Nd) (nm:Pth) (i:Nat) (sc:Pth) (s:St):Pth×St:=
 if x.op=10 then (if (joinP sc nm).2 then ((joinP sc nm).1,s.sc i sc) else (sc,(s.sc i sc).rep i 2))
 else if x.op=16∨x.op=17∨x.op=19 then (sc,s.sc i sc)
 else if (joinP sc nm).2 then (if x.op=11∨x.op=12 then (joinP sc nm).1 else sc,(s.sc i sc).dec i (fmtP (joinP sc nm).1) x.op)
 else (sc,(s.sc i sc).rep i 2)
def hasBl (op:Int):Bool:=decide (op=10∨op=11∨op=12∨op=16∨op=17)
def declS:Bool→Fo→Nat→Pth→St→St
 |_,.nil,_,_,s=>s
 |true,.cons x k n,i,sc,s=>if x.op=4 then declS false k (i+1) sc s else declS true n (i+1+k.size) sc s
 |false,.cons x k n,i,sc,s=>
  declS false n (i+1+k.size) sc (if hasBl x.op then declS true k (i+1) (headS x (nameF k) i sc s).1 (headS x (nameF k) i sc s).2 else (headS x (nameF k) i sc s).2)
theorem decG_len (F:List (By×Nat)) (G:List (Nat×Nat)) (path:By) (i:Nat):(decG F G path i).length≤G.length+1:=by
 unfold decG;split<;>simp
theorem headS_len (x:Nd) (nm:Pth) (i:Nat) (sc:Pth) (s:St):(headS x nm i sc s).2.S.length=s.S.length∧(headS x nm i sc s).2.D.length≤s.D.length+1∧(headS x nm i sc s).2.G.length≤s.G.length+1:=by
 have:=decG_len s.F s.G (fmtP (joinP sc nm).1) i;unfold headS;split
 ·split<;>simp[St.sc,St.rep]
 ·split
  ·simp[St.sc]
  ·split<;>simp[St.sc,St.rep,St.dec]
   exact this
theorem declS_len:∀ (m:Bool) (t:Fo) (i:Nat) (sc:Pth) (s:St),(declS m t i sc s).S.length=s.S.length∧(declS m t i sc s).D.length≤s.D.length+t.size∧(declS m t i sc s).G.length≤s.G.length+t.size
 |true,.nil,_,_,s=>⟨rfl,Nat.le_refl _,Nat.le_refl _⟩
 |false,.nil,_,_,s=>⟨rfl,Nat.le_refl _,Nat.le_refl _⟩
 |true,.cons x k n,i,sc,s=>by
  simp only[declS,Fo.size];split
  ·have:=declS_len false k (i+1) sc s;omega
  ·have:=declS_len true n (i+1+k.size) sc s;omega
 |false,.cons x k n,i,sc,s=>by
  simp only[declS,Fo.size];have h:=headS_len x (nameF k) i sc s;split
  ·have h1:=declS_len true k (i+1) (headS x (nameF k) i sc s).1 (headS x (nameF k) i sc s).2
   have h2:=declS_len false n (i+1+k.size) sc (declS true k (i+1) (headS x (nameF k) i sc s).1 (headS x (nameF k) i sc s).2);omega
  ·have h2:=declS_len false n (i+1+k.size) sc (headS x (nameF k) i sc s).2
   omega
theorem V_nil {t:Fo} (h:t.V []):t=.nil:=by
 cases t with
 |nil=>rfl
 |cons x k n=>simp[Fo.V] at h
theorem V_cons {t:Fo} {sl:Bool×Int} {cs:List (Bool×Int)} (h:t.V (sl::cs)):∃ y k n,t=.cons y k n∧n.V cs:=by
 cases t with
 |nil=>exact h.elim
 |cons x k n=>
  obtain⟨b,c⟩:=sl;cases b
  ·exact⟨x,k,n,rfl,h.2.2⟩
  ·exact⟨x,k,n,rfl,h.2.2⟩
def leafK (c:Int):Bool:=decide (c=110∨c=115∨c=105∨c=73)
theorem V_leaf {t:Fo} {c:Int} {cs:List (Bool×Int)} (hc:leafK c=true) (h:t.V ((false,c)::cs)):∃ y n,t=.cons y .nil n∧n.V cs∧(y.op=3∨y.op=1):=by
 cases t with
 |nil=>exact h.elim
 |cons x k n=>
  obtain⟨⟨h1,_,h2⟩,h3,h4⟩:=h
  have hop:x.op=3∨x.op=1:=by
   unfold leafK at hc;simp only[decide_eq_true_eq] at hc;unfold accB at h1
   rcases hc with rfl|rfl|rfl|rfl<;>simp at h1<;>simp[h1]
  have hk:(kindsB x.op x.kids).1=[]:=by rcases hop with e|e<;>rw[e]<;>rfl
  rw[hk] at h3;have:=V_nil h3;subst this;exact⟨x,n,rfl,h4,hop⟩
theorem V_blk {t:Fo} {c:Int} {cs:List (Bool×Int)} (h:t.V ((true,c)::cs)):∃ y bl n,t=.cons y bl n∧n.V cs∧y.op=4∧bl.V (List.replicate bl.cnt (false,c)):=by
 cases t with
 |nil=>exact h.elim
 |cons x k n=>exact⟨x,k,n,rfl,h.2.2,h.1.1,h.2.1⟩
theorem args_blk {p:List Nd} {c':Int}:∀ (ls:List Int) (t:Fo) (i:Nat),(ls.all leafK)=true→t.V (ls.map (fun c=>(false,c))++[(true,c')])→t.At p i→
 ∃ bl:Fo,bl.V (List.replicate bl.cnt (false,c'))∧bl.At p (i+ls.length+1)∧t.size=ls.length+1+bl.size∧t.cnt=ls.length+1∧(t.starts i).getD ls.length 0=i+ls.length∧∀ sc s,declS true t i sc s=declS false bl (i+ls.length+1) sc s
 |[],t,i,_,h,ha=>by
  obtain⟨y,bl,n,rfl,h1,h2,h3⟩:=V_blk h;have:=V_nil h1;subst this;refine⟨bl,h3,ha.2.2.1,by simp only[Fo.size,List.length_nil];omega,rfl,rfl,fun sc s=>?_⟩;simp only[declS,h2,if_true];rfl
 |c::ls,t,i,hl,h,ha=>by
  simp only[List.all_cons,Bool.and_eq_true] at hl;obtain⟨y,n,rfl,h1,h2⟩:=V_leaf hl.1 h;obtain⟨bl,g1,g2,g3,g4,g5,g6⟩:=args_blk ls n (i+1) hl.2 h1 (by simpa [Fo.size] using ha.2.2.2)
  have e:i+1+ls.length=i+(c::ls).length:=by simp only[List.length_cons];omega
  rw[e] at g2 g5 g6;refine⟨bl,g1,g2,by simp only[Fo.size,List.length_cons];omega,by simp only[Fo.cnt,g4,List.length_cons],?_,fun sc s=>?_⟩
  ·simp only[Fo.starts,Fo.size,List.length_cons,List.getD_cons_succ]
   have:i+1+0=i+1:=rfl;rw[this,g5];simp only[List.length_cons]
  ·have: ¬y.op=4:=by omega
   simp only[declS,if_neg this,Fo.size,Nat.add_zero];exact g6 sc s
theorem decl_blk {p:List Nd} {x:Nd} {k n:Fo} {c:Int} {cs:List (Bool×Int)} {i:Nat} (ha:(Fo.cons x k n).At p i) (hv:(Fo.cons x k n).V ((false,c)::cs)) (hb:hasBl x.op=true):
 ∃ (m:Nat) (c':Int) (bl:Fo),m≤4∧(c'=68∨c'=70)∧bl.V (List.replicate bl.cnt (false,c'))∧bl.At p (i+1+m+1)∧k.size=m+1+bl.size∧k.cnt=m+1∧(k.starts (i+1)).getD m 0=i+1+m∧∀ sc s,declS true k (i+1) sc s=declS false bl (i+1+m+1) sc s:=by
 obtain⟨_,hk,_⟩:=hv;unfold hasBl at hb;simp only[decide_eq_true_eq] at hb
 rcases hb with e|e|e|e|e<;>rw[e] at hk
 ·obtain⟨bl,h⟩:=args_blk [110] k (i+1) rfl hk ha.2.2.1
  exact⟨1,_,bl,by decide,.inl rfl,h⟩
 ·obtain⟨bl,h⟩:=args_blk [115] k (i+1) rfl hk ha.2.2.1
  exact⟨1,_,bl,by decide,.inl rfl,h⟩
 ·obtain⟨bl,h⟩:=args_blk [115,105,105] k (i+1) rfl hk ha.2.2.1
  exact⟨3,_,bl,by decide,.inl rfl,h⟩
 ·obtain⟨bl,h⟩:=args_blk [110,105,105] k (i+1) rfl hk ha.2.2.1
  exact⟨3,_,bl,by decide,.inr rfl,h⟩
 ·obtain⟨bl,h⟩:=args_blk [110,110,105,105] k (i+1) rfl hk ha.2.2.1
  exact⟨4,_,bl,by decide,.inr rfl,h⟩
theorem decl_op {c op:Int} (hc:c=68∨c=70) (h:accB c op=true):op=10∨op=11∨op=12∨op=13∨op=14∨op=15∨op=16∨op=17∨op=18∨op=19∨op=20∨op=21:=by
 unfold accB at h
 rcases hc with rfl|rfl
 ·simp at h;omega
 ·simp[isElemB] at h;omega
theorem decl_name {p:List Nd} {x:Nd} {k n:Fo} {c:Int} {cs:List (Bool×Int)} {i:Nat} (hc:c=68∨c=70) (ha:(Fo.cons x k n).At p i) (hv:(Fo.cons x k n).V ((false,c)::cs)):i+1<p.length∧nameF k=(parseP (p.getD (i+1) dN).str).1:=by
 obtain⟨⟨hacc,_⟩,hk,_⟩:=hv
 have key:∃ sl r,slots (kindsB x.op x.kids).1=sl::r:=by
  rcases decl_op hc hacc with e|e|e|e|e|e|e|e|e|e|e|e<;>rw[e]<;>exact⟨_,_,rfl⟩
 obtain⟨sl,r,e⟩:=key;rw[e] at hk;obtain⟨y,ky,n',rfl,_⟩:=V_cons hk;have h1:=ha.2.2.1;exact⟨At.lt h1,by rw[At.get h1];rfl⟩
theorem joinP_root {b r:Pth} (h:(joinP b r).2=true):(joinP b r).1.root=true:=by
 unfold joinP at h ⊢;split
 ·simp_all
 ·split
  ·rfl
  ·split
   ·simp_all
   ·rfl
set_option maxRecDepth 100000
set_option maxHeartbeats 1000000
abbrev nU (z:Int):V:=.s (.int .u64 z)
def regB (sp base len:Int):Bool:=decide (4≤sp∨sp=2∨len=0∨1048576<len∨9223372036854775808<base)||decide (sp=3∧256<base+len)
def acsB (w u:Int):Bool:=if w=1∨w=2∨w=4∨w=8 then decide (2<u) else true
theorem u64_in {z:Int} (h1:0≤z) (h2:z<18446744073709551616):IntKind.u64.wrap z=z:=by
 simp only[IntKind.wrap,IntKind.bits,IntKind.signed,Bool.false_and,Bool.false_eq_true,if_false];exact Int.emod_eq_of_lt h1 (by simpa using h2)
theorem badAccess_c (w u:Int):FC Tryz.prog 59 [nU w,nU u] 0 [] (bV (acsB w u)) 0 []:=by
 refine FC.walk (by kernel_rfl) Tryz.func59 rfl rfl ?_
 repeat'(first|exact y0|refine y1 ?_|refine y2 ?_ ?_|(refine y8 ?_ ?_<;>intro h<;>try exact y6)|refine Fin.bool (.inl rfl) rfl ?_|refine y3 ?_|refine y7 ?_ ?_|refine y4 ?_|(refine y9 ?_ ?_<;>intro h)|exact y5|fail)
 all_goals (unfold acsB;first|(rw[if_pos (by omega)];simp;omega)|(rw[if_neg (by omega)]))
theorem badRegion_c (sp base len:Int) (h0:0≤base) (h1:0≤len):FC Tryz.prog 58 [nU sp,nU base,nU len] 0 [] (bV (regB sp base len)) 0 []:=by
 refine FC.walk (by kernel_rfl) Tryz.func58 rfl rfl ?_
 repeat'(first|exact y0|refine y1 ?_|refine y2 ?_ ?_|(refine y8 ?_ ?_<;>intro h<;>try exact y6)|refine Fin.bool (.inl rfl) rfl ?_|refine y3 ?_|refine y7 ?_ ?_|refine y4 ?_|(refine y9 ?_ ?_<;>intro h)|exact y5|fail)
 all_goals first
  |exact u64_in (by omega) (by omega)
  |(unfold regB;simp;omega)
def numN (p:List Nd) (i:Nat):Int:=(p.getD i dN).int
def wfI (p:List Nd):Prop:=∀ x∈p,0≤x.int
theorem wfI_get {p:List Nd} (h:wfI p) (i:Nat):0≤(p.getD i dN).int:=by
 rw[List.getD_eq_getElem?_getD]
 cases e:p[i]? with
 |none=>simp[dN]
 |some x=>exact h x (List.mem_of_getElem? e)
def bigB (p:List Nd):Nat→Nat→Bool
 |_,0=>false
 |i,K+1=>decide (255<numN p i)||bigB p (i+1) K
def oorB (p:List Nd) (i:Nat):Bool:=
 if (p.getD i dN).op=12 then decide (5<numN p (i+2))||decide (65535<numN p (i+3))
 else if (p.getD i dN).op=14 then decide (7<numN p (i+2))||decide (1<numN p (i+3))||decide (15<numN p (i+4))
 else if (p.getD i dN).op=20 then decide (15<numN p (i+2))
 else if (p.getD i dN).op=15 then regB (numN p (i+2)) (numN p (i+3)) (numN p (i+4))
 else if (p.getD i dN).op=16 then acsB (numN p (i+2)) (numN p (i+3))
 else if (p.getD i dN).op=17 then acsB (numN p (i+3)) (numN p (i+4))
 else if (p.getD i dN).op=18 then decide (numN p (i+2)=0)||decide (256<numN p (i+2))
 else if (p.getD i dN).op=19 then decide (8388608<numN p (i+1))
 else if (p.getD i dN).op=50 then decide (255<numN p (i+1))||bigB p (i+3) (p.getD (i+2) dN).kids.toNat
 else if (p.getD i dN).op=51 then decide (64<numN p (i+1))
 else if (p.getD i dN).op=41 then decide (65535<numN p (i+2))
 else false
def NumAt (p:List Nd) (i:Nat):Prop:=i<p.length∧(((p.getD i dN).op=14∨(p.getD i dN).op=15∨(p.getD i dN).op=17)→i+4<p.length)∧(((p.getD i dN).op=12∨(p.getD i dN).op=16)→i+3<p.length)∧
 (((p.getD i dN).op=20∨(p.getD i dN).op=18∨(p.getD i dN).op=50∨(p.getD i dN).op=41)→i+2<p.length)∧(((p.getD i dN).op=19∨(p.getD i dN).op=51)→i+1<p.length)∧
 ((p.getD i dN).op=50→∃ K:Nat,(p.getD (i+2) dN).kids=(K:Int)∧i+3+K≤p.length)
theorem bigB_no {p:List Nd}:∀ {K i:Nat},(∀ j,j<K→ ¬255<numN p (i+j))→bigB p i K=false
 |0,_,_=>rfl
 |K+1,i,h=>by
  simp only[bigB];rw[decide_eq_false (show ¬255<numN p i from h 0 (Nat.succ_pos _)),bigB_no fun j hj=>by have:=h (j+1) (by omega);rwa [show i+(j+1)=i+1+j by omega] at this];rfl
theorem bigB_yes {p:List Nd}:∀ {K i j:Nat},j<K→255<numN p (i+j)→bigB p i K=true
 |K+1,i,0,_,h=>by simp only[bigB];rw[decide_eq_true (by simpa using h)];rfl
 |K+1,i,j+1,hj,h=>by
  simp only[bigB];rw[bigB_yes (K:=K) (i:=i+1) (j:=j) (by omega) (by rwa [show i+1+j=i+(j+1) by omega]),Bool.or_true]
theorem oor50 {p:List Nd} {i:Nat} (h:(p.getD i dN).op=50):oorB p i=(decide (255<numN p (i+1))||bigB p (i+3) (p.getD (i+2) dN).kids.toNat):=by
 unfold oorB
 repeat (first|rw[if_pos (by omega)]|rw[if_neg (by omega)])
theorem oor_c (p:List Nd) (hp:p.length≤2048) (hI:wfI p) (i:Nat) (hn:NumAt p i):FC Tryz.prog 38 [.s (.ptr (some (0,0))),nI i] 1 (anP p) (bV (oorB p i)) 1 (anP p):=by
 obtain⟨g0,g4,g3,g2,g1,h2⟩:=hn;have hr:=badRegion_c (numN p (i+2)) (numN p (i+3)) (numN p (i+4)) (wfI_get hI _) (wfI_get hI _);have ha:=badAccess_c (numN p (i+2)) (numN p (i+3));have hb:=badAccess_c (numN p (i+3)) (numN p (i+4));unfold numN at hr ha hb;refine FC.walk (by kernel_rfl) Tryz.func38 rfl rfl ?_;by_cases h50:(p.getD i dN).op=50
 ·obtain⟨K,hK,hle⟩:=h2 h50
  repeat'(first|exact y0|refine y1 ?_|refine y2 ?_ ?_|(refine y8 ?_ ?_<;>intro h<;>try exact y6)|refine⟨.inl rfl,_,[],VLe.of_eq (congrArg bV ?_),EndOK.by rfl ⟨rfl,trivial⟩ rfl rfl rfl rfl⟩|refine y3 ?_|refine y7 ?_ ?_|refine y4 ?_|(refine y9 ?_ ?_<;>intro h)|exact y5|fail)
  all_goals try omega
  ·unfold oorB numN
   repeat (first|rw[if_pos (by omega)]|rw[if_neg (by omega)])
   rw[decide_eq_true (by assumption)];rfl
  ·have hk:((i:Int)+3)+(p.getD (i+2) dN).kids=((i+3+K:Nat):Int):=by rw[hK];push_cast;rfl
   have hK2:i+3+K-(i+3)=K:=by omega
   refine RegX.chunkN 12 rfl rfl ?_ (RegX.eqv 169 (congrArg nI hk) rfl ?_)
   all_goals
    repeat'(first|exact y0|refine y1 ?_|refine y2 ?_ ?_|(refine y8 ?_ ?_<;>intro h<;>try exact y6)|refine y3 ?_|refine y7 ?_ ?_|refine y4 ?_|(refine y9 ?_ ?_<;>intro h)|exact y5|fail)
   all_goals try omega
   ·rw[hk];exact i64_in (by omega) (by omega)
   refine Ex.inv (σ:=Nat) (fun j=>[(172,nI j)]) (fun j=>anP p) (fun j=>j≤K∧∀ x,x<j→ ¬255<numN p (i+3+x)) (fun j=>K-j) 0 rfl (fun _=>rfl) ⟨Nat.zero_le _,fun x hx=>by omega⟩ ⟨VLe.refl _,trivial⟩ ⟨rfl,trivial⟩ ?_;rintro j ⟨j1,j2⟩
   repeat'(first|exact y0|refine y1 ?_|refine y2 ?_ ?_|(refine y8 ?_ ?_<;>intro h<;>try exact y6)|refine⟨.inl rfl,_,[],VLe.of_eq (congrArg bV ?_),EndOK.by rfl ⟨rfl,trivial⟩ rfl rfl rfl rfl⟩|refine LoopR.same (j+1) ⟨?_,?_⟩ ?_ rfl ⟨VLe.refl _,trivial⟩ ⟨rfl,trivial⟩ rfl rfl (by decide)|refine y3 ?_|refine y7 ?_ ?_|refine y4 ?_|(refine y9 ?_ ?_<;>intro h)|exact y5|fail)
   all_goals first
    |omega
    |(have q:j<i+3+K-(i+3):=Int.ofNat_lt.1 (by assumption)
      first
       |omega
       |(rw[oor50 h50,hK,Int.toNat_natCast,bigB_yes (j:=j) (by omega) (by assumption),Bool.or_true];done)
       |exact ext_all j2 (by assumption))
    |(have q: ¬j<i+3+K-(i+3):=fun e=>absurd (Int.ofNat_lt.2 e) (by assumption)
      rw[oor50 h50,hK,Int.toNat_natCast,bigB_no (fun x hx=>j2 x (by omega)),Bool.or_false];exact (decide_eq_false (by assumption)).symm)
 ·clear h2
  repeat'(first|exact y0|refine y1 ?_|refine y2 ?_ ?_|(refine y8 ?_ ?_<;>intro h<;>try exact y6)|(refine wC ?_;first|refine wF 58 (pu hr ?_)|refine wF 59 (pu ha ?_)|refine wF 59 (pu hb ?_))|refine⟨.inl rfl,_,[],VLe.of_eq (congrArg bV ?_),EndOK.by rfl ⟨rfl,trivial⟩ rfl rfl rfl rfl⟩|refine y3 ?_|refine y7 ?_ ?_|refine y4 ?_|(refine y9 ?_ ?_<;>intro h)|exact y5|fail)
  all_goals first
   |omega
   |(unfold oorB numN
     repeat (first|rw[if_pos (by omega)]|rw[if_neg (by omega)])
     first
      |done
      |rfl
      |(refine Eq.symm ?_;simp only[Bool.or_eq_true,decide_eq_true_eq,Nat.add_eq] at* <;>omega)
      |(refine Eq.symm ?_;simp only[Bool.or_eq_false_iff,decide_eq_false_iff_not,Nat.add_eq] at* <;>omega))
set_option maxRecDepth 100000
set_option maxHeartbeats 1000000
def resF (p:List Nd) (F:List (By×Nat)) (op:Int):List Pth→Int
 |[]=> -1
 |c::t=>match lkF F (fmtP c) with|some i=>if (p.getD i dN).op=op then (i:Int) else-1|none=>resF p F op t
theorem resF_cons_some {p:List Nd} {F:List (By×Nat)} {op:Int} {c:Pth} {t:List Pth} {i:Nat} (h:lkF F (fmtP c)=some i):resF p F op (c::t)=if (p.getD i dN).op=op then (i:Int) else-1:=by simp only[resF,h]
theorem resF_cons_none {p:List Nd} {F:List (By×Nat)} {op:Int} {c:Pth} {t:List Pth} (h:lkF F (fmtP c)=none):resF p F op (c::t)=resF p F op t:=by simp only[resF,h]
theorem lkF_mem:∀ {F:List (By×Nat)} {k:By} {i:Nat},lkF F k=some i→(k,i)∈F
 |x::t,k,i,h=>by
  simp only[lkF] at h;split at h
  ·rename_i e;cases h;rw[←e];exact .head _
  ·exact .tail _ (lkF_mem h)
theorem candL_root (bs:List By) (s0:By):∀ (k:Nat),∀ c∈candL bs s0 k,c.root=true
 |0,c,h=>by simp[candL] at h;rw[h]
 |k+1,c,h=>by
  unfold candL at h;split at h
  ·exact candL_root bs s0 k c h
  ·rcases List.mem_cons.1 h with rfl|h
   ·rfl
   ·exact candL_root bs s0 k c h
theorem candP_root {b r:Pth}:∀ c∈candP b r,c.root=true:=by
 intro c h;unfold candP at h;split at h
 ·simp at h
 ·split at h
  ·split at h
   ·rename_i hj;simp at h;rw[h];exact joinP_root hj
   ·simp at h
  ·exact candL_root _ _ _ c h
theorem candP_len (b r:Pth):(candP b r).length≤b.segs.length+1:=by
 unfold candP;split
 ·simp
 ·split
  ·split<;>simp
  ·exact candL_len _ _ _
abbrev anR (p:List Nd) (F:List (By×Nat)):Hp:=[(0,some {cells:=[.frz (fun k=>ndC (p.getD k dN)) 4 p.length,.unk,.unk,.map (some 1)],ty:=67,more:=true,ro:=true}),(1,some {mapB F with ro:=true})]
theorem resolve_c (p:List Nd) (hp:p.length≤2048) (F:List (By×Nat)) (hF:∀ x∈F,x.2<p.length) (sc nm:Pth) (hs:sc.segs.length≤1000000) (op:Int):
 FC Tryz.prog 61 [.s (.ptr (some (0,0))),ptV sc,ptV nm,nI op] 2 (anR p F) (nI (resF p F op (candP sc nm))) 2 (anR p F):=by
 have hcd:=cand_c sc nm;have hroot:= @candP_root sc nm;have hcl:=candP_len sc nm
 have hzr:∀ w,(zeroValue 3).run Tryz.prog w=.ok (.int .i64 0) w:=fun w=>by rw[Tryz.zeroValue3]
 generalize candP sc nm=cs at*;refine FC.walk (by kernel_rfl) Tryz.func61 rfl rfl ?_
 repeat'(first|exact y0|refine y1 ?_|refine y2 ?_ ?_|(refine y8 ?_ ?_<;>intro h<;>try exact y6)|(refine wC ?_;first|refine wF 103 (pu hcd ?_))|refine y3 ?_|refine y7 ?_ ?_|refine y4 ?_|(refine y9 ?_ ?_<;>intro h)|exact y5|fail)
 refine Ex.inv (σ:=Nat) (fun j=>[(17,nI j)]) (fun j=>anR p F) (fun j=>j≤cs.length∧resF p F op (cs.drop j)=resF p F op cs) (fun j=>cs.length-j) 0 rfl (fun _=>rfl) ⟨Nat.zero_le _,rfl⟩ ⟨VLe.refl _,trivial⟩ ⟨rfl,rfl,trivial⟩ ?_;rintro j ⟨j1,j2⟩;by_cases hj:j<cs.length
 ·rw[List.drop_eq_getElem_cons hj] at j2
  have hg:cs.getD j z0=cs[j]:=by simp[List.getD_eq_getElem?_getD,hj]
  have hrt:(cs.getD j z0).root=true:=by rw[hg];exact hroot _ (List.getElem_mem hj)
  have hf:=fmt_c (cs.getD j z0) hrt;rw[←hg] at j2
  cases hl:lkF F (fmtP (cs.getD j z0)) with
  |none=>
   rw[resF_cons_none hl] at j2
   repeat'(first|exact y0|refine y1 ?_|refine y2 ?_ ?_|(refine y8 ?_ ?_<;>intro h<;>try exact y6)|(refine wC ?_;first|refine wF 100 (pu hf ?_))|refine RegX.lkp none rfl rfl rfl rfl rfl hzr hl rfl ?_|refine y3 ?_|refine y7 ?_ ?_|refine y4 ?_|(refine y9 ?_ ?_<;>intro h)|exact y5|fail)
   all_goals try omega
   exact LoopR.same (j+1) ⟨hj,j2⟩ (by omega) rfl ⟨VLe.refl _,trivial⟩ ⟨rfl,rfl,trivial⟩ rfl rfl (by decide)
  |some i=>
   rw[resF_cons_some hl] at j2;have hi:i<p.length:=hF _ (lkF_mem hl)
   repeat'(first|exact y0|refine y1 ?_|refine y2 ?_ ?_|(refine y8 ?_ ?_<;>intro h<;>try exact y6)|(refine wC ?_;first|refine wF 100 (pu hf ?_))|refine RegX.lkp (some i) rfl rfl rfl rfl rfl hzr hl rfl ?_|refine y3 ?_|refine y7 ?_ ?_|refine y4 ?_|(refine y9 ?_ ?_<;>intro h)|exact y5|fail)
   all_goals try exact hi
   ·rw[←j2,if_pos ‹_›]
    exact⟨.inl rfl,_,[],VLe.refl _,EndOK.by rfl ⟨rfl,rfl,trivial⟩ rfl rfl rfl rfl⟩
   ·rw[←j2,if_neg ‹_›]
    exact⟨.inl rfl,_,[],VLe.refl _,EndOK.by rfl ⟨rfl,rfl,trivial⟩ rfl rfl rfl rfl⟩
 ·have hd:cs.drop j=[]:=by simp;omega
  rw[hd] at j2;simp only[resF] at j2;rw[←j2]
  repeat'(first|exact y0|refine y1 ?_|refine y2 ?_ ?_|(refine y8 ?_ ?_<;>intro h<;>try exact y6)|refine y3 ?_|refine y7 ?_ ?_|refine y4 ?_|(refine y9 ?_ ?_<;>intro h)|exact y5|fail)
  all_goals exact⟨.inl rfl,_,[],VLe.refl _,EndOK.by rfl ⟨rfl,rfl,trivial⟩ rfl rfl rfl rfl⟩
set_option maxRecDepth 100000
def stG1 (i:Nat) (r:Bool) (G:List (Nat×Nat)):List (Nat×Nat):=if r then G else G++[(i,10)]
def stG2 (op:Int) (i:Nat) (lp:Bool) (G:List (Nat×Nat)):List (Nat×Nat):=if (op=34∨op=35)∧lp=false then G++[(i,8)] else G
def stmS:Bool→Fo→Nat→Bool→Bool→List (Nat×Nat)→List (Nat×Nat)
 |_,.nil,_,_,_,G=>G
 |true,.cons x k n,i,lp,r,G=>stmS true n (i+1+k.size) lp r (if x.op=4 then stmS false k (i+1) lp true G else G)
 |false,.cons x k n,i,lp,r,G=>
  stmS false n (i+1+k.size) lp (r&& !decide (x.op=33∨x.op=34∨x.op=35))
   (if x.op=31 then stmS true k (i+1) lp true (stG2 x.op i lp (stG1 i r G)) else if x.op=32 then stmS true k (i+1) true true (stG2 x.op i lp (stG1 i r G)) else stG2 x.op i lp (stG1 i r G))
theorem stG_len (op:Int) (i:Nat) (lp r:Bool) (G:List (Nat×Nat)):(stG2 op i lp (stG1 i r G)).length≤G.length+2:=by
 unfold stG2 stG1
 split<;>split<;>simp<;>omega
theorem stG1_len (i:Nat) (r:Bool) (G:List (Nat×Nat)):(stG1 i r G).length≤G.length+1:=by
 unfold stG1
 split<;>simp
theorem stmS_len:∀ (m:Bool) (t:Fo) (i:Nat) (lp r:Bool) (G:List (Nat×Nat)),(stmS m t i lp r G).length≤G.length+2*t.size
 |true,.nil,_,_,_,_=>Nat.le_refl _
 |false,.nil,_,_,_,_=>Nat.le_refl _
 |true,.cons x k n,i,lp,r,G=>by
  simp only[stmS,Fo.size];have h1:=stmS_len true n (i+1+k.size) lp r (if x.op=4 then stmS false k (i+1) lp true G else G);split at h1
  ·have h2:=stmS_len false k (i+1) lp true G
   rw[if_pos ‹_›];omega
  ·rw[if_neg ‹_›];omega
 |false,.cons x k n,i,lp,r,G=>by
  simp only[stmS,Fo.size];have h0:=stG_len x.op i lp r G;generalize stG2 x.op i lp (stG1 i r G)=G2 at*;have h1:=stmS_len true k (i+1) lp true G2;have h2:=stmS_len true k (i+1) true true G2;have h3:=stmS_len false n (i+1+k.size) lp (r&& !decide (x.op=33∨x.op=34∨x.op=35)) (if x.op=31 then stmS true k (i+1) lp true G2 else if x.op=32 then stmS true k (i+1) true true G2 else G2)
  have h4:(if x.op=31 then stmS true k (i+1) lp true G2 else if x.op=32 then stmS true k (i+1) true true G2 else G2).length≤G2.length+2*k.size:=by
   split
   ·exact h1
   ·split
    ·exact h2
    ·omega
  omega
theorem expr_op {op:Int} (h:accB 101 op=true): ¬op=4:=by
 intro e;subst e;revert h;decide
theorem stm_kids {x:Nd} {k n:Fo} {cs:List (Bool×Int)} (hv:(Fo.cons x k n).V ((false,83)::cs)) (ho:x.op=31∨x.op=32):
 ∃ e ke rest,k=.cons e ke rest∧ ¬e.op=4∧rest.V (List.replicate rest.cnt (true,83))∧1≤rest.cnt∧(x.op=32→rest.cnt=1):=by
 obtain⟨_,hk,_⟩:=hv
 have key:∀ m:Nat,slots (kindsB x.op x.kids).1=(false,101)::List.replicate (m+1) (true,83)→(x.op=32→m=0)→∃ e ke rest,k=.cons e ke rest∧ ¬e.op=4∧rest.V (List.replicate rest.cnt (true,83))∧1≤rest.cnt∧(x.op=32→rest.cnt=1):=by
  intro m hs h0;rw[hs] at hk
  cases k with
  |nil=>exact hk.elim
  |cons e ke rest=>
   have hc:=Fo.V_cnt hk.2.2;rw[List.length_replicate] at hc;exact⟨e,ke,rest,rfl,expr_op hk.1.1,by rw[hc];exact hk.2.2,by omega,fun h=>by rw[hc,h0 h]⟩
 rcases ho with ho|ho
 ·by_cases h3:x.kids=3
  ·refine key 1 ?_ (fun h=>by omega)
   rw[ho,h3];rfl
  ·refine key 0 ?_ (fun _=>rfl)
   rw[ho];unfold kindsB;rw[if_neg (by decide),if_neg (by decide),if_neg (by simp[h3])];rfl
 ·refine key 0 ?_ (fun _=>rfl)
  rw[ho];rfl
end Go.Proofs.YtphdhedhhlfepaaGreatDoor
