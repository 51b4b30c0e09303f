import Derived.Test.YtegjgpldfgjoiaaGreatDoorCnD20
set_option linter.all false
set_option maxHeartbeats 40000000
set_option maxRecDepth 100000
namespace Go.Proofs.YtegjgpldfgjoiaaGreatDoor
open Go Ab
def bX (x:Nat×Nat):List S:=[.int .i64 (x.1:Int),.int .i64 (x.2:Int)]
structure Dc where
 path:By
 op:Int
 node:Nat
def gZ (x:Dc):List S:=[.str x.path,.int .i64 x.op,.int .i64 (x.node:Int)]
abbrev eA (p:List Nd) (d nD g nG:Nat):Bl:=
 {cells:=[.frz (λk=>ndC (p.getD k dN)) 4 p.length,.slc (some (1,0)) p.length (some p.length),.row d (d+1) nD,.map (some 5),.row g (g+1) nG],ty:=186}
abbrev bv (g:Nat) (G:List (Nat×Nat)):Option Bl:=g9 112 (g+1) 2 (G.flatMap bX)
abbrev jl (d:Nat) (D:List Dc):Option Bl:=g9 58 (d+1) 3 (D.flatMap gZ)
theorem uY:∀ G:List (Nat×Nat),(G.flatMap bX).length=G.length*2
 |[]=>rfl
 |x::G=>by rw[Z0g,Z03,uY G];simp only[Z04];simp[bX];omega
theorem uZ:∀ D:List Dc,(D.flatMap gZ).length=D.length*3
 |[]=>rfl
 |x::D=>by rw[Z0g,Z03,uZ D];simp only[Z04];simp[gZ];omega
theorem DM (G:List (Nat×Nat)) (x:Nat×Nat):(G++[x]).flatMap bX=G.flatMap bX++bX x:=ae
theorem DQ (D:List Dc) (x:Dc):(D++[x]).flatMap gZ=D.flatMap gZ++gZ x:=ae
theorem cL (p:List Nd) (nD:Nat) (G:List (Nat×Nat)) (i c:Nat) (hG:G.length<=1000000000000):
 FQ 117 [.s (.ptr (some (0,0))),nI i,nI c] 8 [(0,some (eA p 3 nD 6 G.length)),(6,bv 6 G)] .any 10 [(0,some (eA p 3 nD 8 (G.length+1))),(6,none),(8,bv 8 (G++[(i,c)]))]:=by
 have hsz:(Tryz.prog.types[112]).size=2:=bd;have hby:(Tryz.prog.types[112]).bytes=16:=bd;rw[bv,bv,DM];refine wW Tryz.func117 ?_
 repeat'(first|refine yA ?_|refine y2 ?_ ?_|exact y5|fail)
 ·refine jC (i:=6) (g:=7) (m:=G.length) (w:=2) (cs:=G.flatMap bX) (foot:=[8]) (k:=1) (add:=bX (i,c)) rfl rfl (uY G) rfl rfl rfl rfl rfl rfl rfl hsz ac rfl ⟨Z02 _,rfl⟩ ac (by simp[bX]) rfl ?_ aa rfl ?_
  ·grind
  repeat'(first|refine yA ?_|refine y2 ?_ ?_|exact y5|fail)
  refine⟨.inr rfl,.tup [],[9,10],cT _,hY rfl ?_ rfl ?_ rfl rfl⟩
  ·refine⟨rfl,bN rfl trivial⟩
  ·refine (bI rfl rfl rfl)
def oR (F:List (By×Nat)) (path:By) (i:Nat):List (By×Nat):=match oL F path with|some _=>F|none=>F++[(path,i)]
def lz (F:List (By×Nat)) (G:List (Nat×Nat)) (path:By) (i:Nat):List (Nat×Nat):=match oL F path with|some _=>G++[(i,3)]|none=>G
theorem x8 (p:List Nd) (D:List Dc) (F:List (By×Nat)) (G:List (Nat×Nat)) (i:Nat) (path:By) (hi:i<p.length) (hD:D.length<=1000000000000) (hG:G.length<=1000000000000):
 FQ 226 [.s (.ptr (some (0,0))),nI i,sV path] 8 [(0,some (eA p 3 D.length 6 G.length)),(3,jl 3 D),(5,some (ca F)),(6,bv 6 G)] .any 12
  [(0,some (eA p 8 (D.length+1) 10 (lz F G path i).length)),(3,none),(6,none),(5,some (ca (oR F path i))),(8,jl 8 (D++[⟨path,(p.getD i dN).op,i⟩])),(10,bv 10 (lz F G path i))]:=by
 have hsz:(Tryz.prog.types[58]).size=3:=bd;have hby:(Tryz.prog.types[58]).bytes=32:=bd
 have hzr:∀ w,(zeroValue 3).run Tryz.prog w=.ok (.int .i64 0) w:=λw=>by rw[Tryz.zeroValue3]
 rw[jl,jl,DQ];refine wW Tryz.func226 ?_
 cases hl:oL F path with
 |some v=>
  have e1:oR F path i=F:=by unfold oR;rw[hl]
  have e2:lz F G path i=G++[(i,3)]:=by unfold lz;rw[hl]
  rw[e1,e2,Z03,Z0n]
  repeat'(first|refine y1 ?_|refine y2 ?_ ?_|refine RegX.lkp (some v) rfl rfl rfl rfl rfl hzr hl rfl ?_|refine y3 ?_|exact y5|fail)
  refine RegX.atCall (ot [0,1,2,3,4,5,6,7] (cL p D.length G i 3 hG) rfl (bI rfl rfl rfl) rfl rfl rfl bc mF rfl rfl (wr:=[(0,some (eA p 3 D.length 8 (G.length+1))),(6,none),(8,bv 8 (G++[(i,3)]))]) ?_ ?_)
  ·show [_,_,_]=_;rw[aP];rfl
  repeat'(first|refine yA ?_|refine y2 ?_ ?_|exact y5|fail)
  refine jC (i:=3) (g:=4) (m:=D.length) (w:=3) (cs:=D.flatMap gZ) (foot:=[10]) (k:=1) (add:=gZ ⟨path,(p.getD i dN).op,i⟩) rfl rfl (uZ D) rfl rfl rfl rfl rfl rfl rfl hsz ac rfl ⟨Z02 _,rfl⟩ ac (by simp[gZ]) rfl ?_ aa rfl ?_
  ·grind
  repeat'(first|refine yA ?_|refine y2 ?_ ?_|exact y5|fail)
  refine⟨.inr rfl,.tup [],[11,12,8,9],cT _,hY rfl ?_ rfl ?_ rfl rfl⟩
  ·exact⟨rfl,rfl,bN rfl (bN rfl trivial)⟩
  ·exact bI (t:=[(10,bv 10 (G++[(i,3)]))]) rfl rfl (bI rfl rfl rfl)
 |none=>
  have e1:oR F path i=F++[(path,i)]:=by unfold oR;rw[hl]
  have e2:lz F G path i=G:=by unfold lz;rw[hl]
  rw[e1,e2]
  repeat'(first|refine y1 ?_|refine y2 ?_ ?_|refine RegX.lkp none rfl rfl rfl rfl rfl hzr hl rfl ?_|refine RegX.mup i rfl rfl rfl rfl rfl rfl rfl hl rfl ?_|refine y3 ?_|exact y5|fail)
  refine jC (i:=3) (g:=4) (m:=D.length) (w:=3) (cs:=D.flatMap gZ) (foot:=[8]) (k:=1) (add:=gZ ⟨path,(p.getD i dN).op,i⟩) rfl rfl (uZ D) rfl rfl rfl rfl rfl rfl rfl hsz ac rfl ⟨Z02 _,rfl⟩ ac (by simp[gZ]) rfl ?_ aa rfl ?_
  ·grind
  repeat'(first|refine yA ?_|refine y2 ?_ ?_|exact y5|fail)
  refine⟨.inr rfl,.tup [],[9,10,6,7],cT _,Cx rfl ?_ rfl ?_ rfl ?_ ?_⟩
  ·exact⟨rfl,rfl,bN rfl (bN rfl trivial)⟩
  ·exact bI (t:=[(10,bv 10 G)]) rfl rfl (bI rfl rfl rfl)
  ·rcases G with _|⟨x,G⟩<;>rcases D with _|⟨y,D⟩<;>rfl
  ·rcases G with _|⟨x,G⟩<;>rcases D with _|⟨y,D⟩<;>rfl
section
variable {cs:List (Bool×Int)} {c:Int} {t:Fo}
structure St where
 S:List Pth
 D:List Dc
 F:List (By×Nat)
 G:List (Nat×Nat)
def St.rep (s:St) (i c:Nat):St:={s with G:=s.G++[(i,c)]}
def St.dec (s:St) (i:Nat) (path:By) (op:Int):St:={S:=s.S,D:=s.D++[⟨path,op,i⟩],F:=oR s.F path i,G:=lz s.F s.G path i}
def St.sc (s:St) (i:Nat) (sc:Pth):St:={s with S:=s.S.set i sc}
def aw:Fo->Pth
 | .cons y _ _=>(ak y.str).1
 | .nil=>z0
def co (x:Nd) (nm:Pth) (i:Nat) (sc:Pth) (s:St):Pth×St:=
 if x.op=10 then (if (au sc nm).2 then ((au sc nm).1,s.sc i sc) else (sc,(s.sc i sc).rep i 2))
 else if x.op=16\/x.op=17\/x.op=19 then (sc,s.sc i sc)
 else if (au sc nm).2 then (if x.op=11\/x.op=12 then (au sc nm).1 else sc,(s.sc i sc).dec i (aH (au sc nm).1) x.op)
 else (sc,(s.sc i sc).rep i 2)
def ge (op:Int):Bool:=decide (op=10\/op=11\/op=12\/op=16\/op=17)
def aX:Bool->Fo->Nat->Pth->St->St
 |_,.nil,_,_,s=>s
 |true,.cons x k n,i,sc,s=>if x.op=4 then aX false k (i+1) sc s else aX true n (i+1+k.size) sc s
 |false,.cons x k n,i,sc,s=>
  aX false n (i+1+k.size) sc (if ge x.op then aX true k (i+1) (co x (aw k) i sc s).1 (co x (aw k) i sc s).2 else (co x (aw k) i sc s).2)
theorem Bv (F:List (By×Nat)) (G:List (Nat×Nat)) (path:By) (i:Nat):(lz F G path i).length<=G.length+1:=by
 unfold lz;split<;>simp
theorem pc (x:Nd) (nm:Pth) (i:Nat) (sc:Pth) (s:St):(co x nm i sc s).2.S.length=s.S.length/\(co x nm i sc s).2.D.length<=s.D.length+1/\(co x nm i sc s).2.G.length<=s.G.length+1:=by
 grind [St.sc,St.rep,St.dec,co,Bv]
theorem cQ:∀ (m:Bool) (t:Fo) (i:Nat) (sc:Pth) (s:St),(aX m t i sc s).S.length=s.S.length/\(aX m t i sc s).D.length<=s.D.length+t.size/\(aX m t i sc s).G.length<=s.G.length+t.size
 |true,.nil,_,_,s=>⟨rfl,Z02 _,Z02 _⟩
 |false,.nil,_,_,s=>⟨rfl,Z02 _,Z02 _⟩
 |true,.cons x k n,i,sc,s=>by
  simp only[aX,Fo.size];split
  ·have:=cQ false k (i+1) sc s;omega
  ·have:=cQ true n (i+1+k.size) sc s;omega
 |false,.cons x k n,i,sc,s=>by
  simp only[aX,Fo.size];have h:=pc x (aw k) i sc s;split
  ·have h1:=cQ true k (i+1) (co x (aw k) i sc s).1 (co x (aw k) i sc s).2
   have h2:=cQ false n (i+1+k.size) sc (aX true k (i+1) (co x (aw k) i sc s).1 (co x (aw k) i sc s).2);omega
  ·have h2:=cQ false n (i+1+k.size) sc (co x (aw k) i sc s).2
   omega
theorem iO (h:t.V []):t=.nil:=by
 grind [Fo.V]
theorem vu {sl:Bool×Int} (h:t.V (sl::cs)):∃ y k n,t=.cons y k n/\n.V cs:=by
 cases t with
 |nil=>exact h.elim
 |cons x k n=>
  obtain⟨b,c⟩:=sl;cases b
  ·exact⟨x,k,n,rfl,h.2.2⟩
  ·exact⟨x,k,n,rfl,h.2.2⟩
def fY (c:Int):Bool:=decide (c=110\/c=115\/c=105\/c=73)
theorem fk (hc:fY c=true) (h:t.V ((false,c)::cs)):∃ y n,t=.cons y .nil n/\n.V cs/\(y.op=3\/y.op=1):=by
 cases t with
 |nil=>exact h.elim
 |cons x k n=>
  obtain⟨⟨h1,_,h2⟩,h3,h4⟩:=h
  have hop:x.op=3\/x.op=1:=by
   grind [fY,bn]
  have hk:(aq x.op x.kids).1=[]:=by rcases hop with e|e<;>rw[e]<;>rfl
  rw[hk] at h3;have:=iO h3
  grind
theorem kJ (h:t.V ((true,c)::cs)):∃ y bl n,t=.cons y bl n/\n.V cs/\y.op=4/\bl.V (List.replicate bl.cnt (false,c)):=by
 cases t with
 |nil=>exact h.elim
 |cons x k n=>exact⟨x,k,n,rfl,h.2.2,h.1.1,h.2.1⟩
theorem gr {p:List Nd} {c':Int}:∀ (ls:List Int) (t:Fo) (i:Nat),(ls.all fY)=true->t.V (ls.map (λc=>(false,c))++[(true,c')])->t.At p i->
 ∃ bl:Fo,bl.V (List.replicate bl.cnt (false,c'))/\bl.At p (i+ls.length+1)/\t.size=ls.length+1+bl.size/\t.cnt=ls.length+1/\(t.starts i).getD ls.length 0=i+ls.length/\∀ sc s,aX true t i sc s=aX false bl (i+ls.length+1) sc s
 |[],t,i,_,h,ha=>by
  obtain⟨y,bl,n,rfl,h1,h2,h3⟩:=kJ h;have:=iO h1;subst this;refine⟨bl,h3,ha.2.2.1,by simp only[Fo.size,Z0e];omega,rfl,rfl,λsc s=>?_⟩;simp only[aX,h2,if_true];rfl
 |c::ls,t,i,hl,h,ha=>by
  simp only[Z1b,Z07] at hl;obtain⟨y,n,rfl,h1,h2⟩:=fk hl.1 h;obtain⟨bl,g1,g2,g3,g4,g5,g6⟩:=gr ls n (i+1) hl.2 h1 (by simpa [Fo.size] using ha.2.2.2)
  grind [Fo.size,Fo.cnt,Fo.starts,aX]
theorem Bs {p:List Nd} {x:Nd} {k n:Fo} {i:Nat} (ha:(Fo.cons x k n).At p i) (hv:(Fo.cons x k n).V ((false,c)::cs)) (hb:ge x.op=true):
 ∃ (m:Nat) (c':Int) (bl:Fo),m<=4/\(c'=68\/c'=70)/\bl.V (List.replicate bl.cnt (false,c'))/\bl.At p (i+1+m+1)/\k.size=m+1+bl.size/\k.cnt=m+1/\(k.starts (i+1)).getD m 0=i+1+m/\∀ sc s,aX true k (i+1) sc s=aX false bl (i+1+m+1) sc s:=by
 obtain⟨_,hk,_⟩:=hv;unfold ge at hb;simp only[decide_eq_true_eq] at hb
 rcases hb with e|e|e|e|e<;>rw[e] at hk
 ·obtain⟨bl,h⟩:=gr [110] k (i+1) rfl hk ha.2.2.1
  grind
 ·obtain⟨bl,h⟩:=gr [115] k (i+1) rfl hk ha.2.2.1
  grind
 ·obtain⟨bl,h⟩:=gr [115,105,105] k (i+1) rfl hk ha.2.2.1
  grind
 ·obtain⟨bl,h⟩:=gr [110,105,105] k (i+1) rfl hk ha.2.2.1
  grind
 ·obtain⟨bl,h⟩:=gr [110,110,105,105] k (i+1) rfl hk ha.2.2.1
  grind
theorem mq {op:Int} (hc:c=68\/c=70) (h:bn c op=true):op=10\/op=11\/op=12\/op=13\/op=14\/op=15\/op=16\/op=17\/op=18\/op=19\/op=20\/op=21:=by
 grind [cV,bn]
theorem ly {p:List Nd} {x:Nd} {k n:Fo} {i:Nat} (hc:c=68\/c=70) (ha:(Fo.cons x k n).At p i) (hv:(Fo.cons x k n).V ((false,c)::cs)):i+1<p.length/\aw k=(ak (p.getD (i+1) dN).str).1:=by
 obtain⟨⟨hacc,_⟩,hk,_⟩:=hv
 have key:∃ sl r,dj (aq x.op x.kids).1=sl::r:=by
  rcases mq hc hacc with e|e|e|e|e|e|e|e|e|e|e|e<;>rw[e]<;>exact⟨_,_,rfl⟩
 obtain⟨sl,r,e⟩:=key;rw[e] at hk;obtain⟨y,ky,n',rfl,_⟩:=vu hk;have h1:=ha.2.2.1;exact⟨At.lt h1,by rw[At.get h1];rfl⟩
theorem jt {b r:Pth} (h:(au b r).2=true):(au b r).1.root=true:=by
 grind [au]
end
abbrev nU (z:Int):V:=.s (.int .u64 z)
def gV (sp base len:Int):Bool:=decide (4<=sp\/sp=2\/len=0\/1048576<len\/9223372036854775808<base)||decide (sp=3/\256<base+len)
def kG (w u:Int):Bool:=if w=1\/w=2\/w=4\/w=8 then decide (2<u) else true
theorem al {z:Int} (h1:0<=z) (h2:z<18446744073709551616):IntKind.u64.wrap z=z:=by
 grind [IntKind.wrap,IntKind.bits,IntKind.signed]
theorem lX (w u:Int):FQ 175 [nU w,nU u] 0 [] (bV (kG w u)) 0 []:=by
 refine wW Tryz.func175 ?_
 repeat'(first|refine y1 ?_|refine y2 ?_ ?_|refine y4 λh=>?_|refine cJ (.inl rfl) rfl ?_|refine y3 ?_|exact y5|fail)
 all_goals (unfold kG;first|(rw[if_pos aa];simp;omega)|(rw[if_neg aa]))
theorem tA (sp base len:Int) (h0:0<=base) (h1:0<=len):FQ 174 [nU sp,nU base,nU len] 0 [] (bV (gV sp base len)) 0 []:=by
 refine wW Tryz.func174 ?_
 repeat'(first|refine y1 ?_|refine y2 ?_ ?_|refine y4 λh=>?_|refine cJ (.inl rfl) rfl ?_|refine y3 ?_|exact y5|fail)
 all_goals (unfold gV;simp;omega)
def ai (p:List Nd) (i:Nat):Int:=(p.getD i dN).int
def re (p:List Nd):Prop:=∀ x∈p,0<=x.int
theorem cE {p:List Nd} (h:re p) (i:Nat):0<=(p.getD i dN).int:=by
 rw[Z00]
 cases e:p[i]? with
 |none=>simp[dN]
 |some x=>exact h x (Z4i e)
def tz (p:List Nd):Nat->Nat->Bool
 |_,0=>false
 |i,K+1=>decide (255<ai p i)||tz p (i+1) K
def aJ (p:List Nd) (i:Nat):Bool:=
 if (p.getD i dN).op=12 then decide (5<ai p (i+2))||decide (65535<ai p (i+3))
 else if (p.getD i dN).op=14 then decide (7<ai p (i+2))||decide (1<ai p (i+3))||decide (15<ai p (i+4))
 else if (p.getD i dN).op=20 then decide (15<ai p (i+2))
 else if (p.getD i dN).op=15 then gV (ai p (i+2)) (ai p (i+3)) (ai p (i+4))
 else if (p.getD i dN).op=16 then kG (ai p (i+2)) (ai p (i+3))
 else if (p.getD i dN).op=17 then kG (ai p (i+3)) (ai p (i+4))
 else if (p.getD i dN).op=18 then decide (ai p (i+2)=0)||decide (256<ai p (i+2))
 else if (p.getD i dN).op=19 then decide (8388608<ai p (i+1))
 else if (p.getD i dN).op=50 then decide (255<ai p (i+1))||tz p (i+3) (p.getD (i+2) dN).kids.toNat
 else if (p.getD i dN).op=51 then decide (64<ai p (i+1))
 else if (p.getD i dN).op=41 then decide (65535<ai p (i+2))
 else false
def kK (p:List Nd) (i:Nat):Prop:=i<p.length/\(((p.getD i dN).op=14\/(p.getD i dN).op=15\/(p.getD i dN).op=17)->i+4<p.length)/\(((p.getD i dN).op=12\/(p.getD i dN).op=16)->i+3<p.length)/\
 (((p.getD i dN).op=20\/(p.getD i dN).op=18\/(p.getD i dN).op=50\/(p.getD i dN).op=41)->i+2<p.length)/\(((p.getD i dN).op=19\/(p.getD i dN).op=51)->i+1<p.length)/\
 ((p.getD i dN).op=50->∃ K:Nat,(p.getD (i+2) dN).kids=(K:Int)/\i+3+K<=p.length)
theorem qN {p:List Nd}:∀ {K i:Nat},(∀ j,j<K-> ¬255<ai p (i+j))->tz p i K=false
 |0,_,_=>rfl
 |K+1,i,h=>by
  simp only[tz];rw[decide_eq_false (show ¬255<ai p i from h 0 (Z1n _)),qN λj hj=>by grind];rfl
theorem oe {p:List Nd}:∀ {K i j:Nat},j<K->255<ai p (i+j)->tz p i K=true
 |K+1,i,0,_,h=>by grind [tz]
 |K+1,i,j+1,hj,h=>by
  simp only[tz];rw[oe (K:=K) (i:=i+1) (j:=j) aa ae,Z4m]
theorem zP {p:List Nd} {i:Nat} (h:(p.getD i dN).op=50):aJ p i=(decide (255<ai p (i+1))||tz p (i+3) (p.getD (i+2) dN).kids.toNat):=by
 unfold aJ
 grind
theorem vX (p:List Nd) (hp:p.length<=2048) (hI:re p) (i:Nat) (hn:kK p i):FQ 116 [.s (.ptr (some (0,0))),nI i] 1 (Cw p) (bV (aJ p i)) 1 (Cw p):=by
 obtain⟨g0,g4,g3,g2,g1,h2⟩:=hn;have hr:=tA (ai p (i+2)) (ai p (i+3)) (ai p (i+4)) (cE hI _) (cE hI _);have ha:=lX (ai p (i+2)) (ai p (i+3));have hb:=lX (ai p (i+3)) (ai p (i+4));unfold ai at hr ha hb;refine wW Tryz.func116 ?_;by_cases h50:(p.getD i dN).op=50
 ·obtain⟨K,hK,hle⟩:=h2 h50
  repeat'(first|refine y1 ?_|refine y2 ?_ ?_|refine y4 λh=>?_|refine⟨.inl rfl,_,[],bp (congrArg bV ?_),hY rfl ⟨rfl,trivial⟩ rfl rfl rfl rfl⟩|refine y3 ?_|exact y5|fail)
  ·grind [aJ,ai]
  ·have hk:((i:Int)+3)+(p.getD (i+2) dN).kids=((i+3+K:Nat):Int):=ae
   have hK2:i+3+K-(i+3)=K:=aa;refine RegX.chunkN 12 rfl rfl ?_ (RegX.eqv 169 (congrArg nI hk) rfl ?_)
   all_goals
    repeat'(first|refine yA ?_|refine y2 ?_ ?_|exact y5|fail)
   ·rw[hk];exact aj aa aa
   refine cD (σ:=Nat) (λj=>[(172,nI j)]) (λj=>Cw p) (λj=>j<=K/\∀ x,x<j-> ¬255<ai p (i+3+x)) (λj=>K-j) 0 rfl (λ_=>rfl) ⟨Z08 _,λx hx=>by omega⟩ bc ⟨rfl,trivial⟩ ?_;rintro j ⟨j1,j2⟩
   repeat'(first|refine y1 ?_|refine y2 ?_ ?_|refine y4 λh=>?_|refine⟨.inl rfl,_,[],bp (congrArg bV ?_),hY rfl ⟨rfl,trivial⟩ rfl rfl rfl rfl⟩|refine dT (j+1) ⟨?_,?_⟩ ?_ rfl bc ⟨rfl,trivial⟩ rfl rfl ac|refine y3 ?_|exact y5|fail)
   all_goals first
    |omega
    |(have q:j<i+3+K-(i+3):=Int.ofNat_lt.1 ae
      first
       |omega
       |(rw[zP h50,hK,Z12,oe (j:=j) aa (by assumption),Z4m];done)
       |exact mo j2 (by assumption))
    |(have q: ¬j<i+3+K-(i+3):=λe=>absurd (Int.ofNat_lt.2 e) ae
      rw[zP h50,hK,Z12,qN (λx hx=>j2 x aa),Z41];exact (decide_eq_false (by assumption)).symm)
 ·clear h2
  repeat'(first|refine y1 ?_|refine y2 ?_ ?_|refine y4 λh=>?_|refine an hr ?_|refine an ha ?_|refine an hb ?_|refine⟨.inl rfl,_,[],bp (congrArg bV ?_),hY rfl ⟨rfl,trivial⟩ rfl rfl rfl rfl⟩|refine y3 ?_|exact y5|fail)
  all_goals first
   |omega
   |(unfold aJ ai
     repeat (first|rw[if_pos aa]|rw[if_neg aa])
     first
      |done
      |rfl
      |(refine Eq.symm ?_;simp only[Z1h,decide_eq_true_eq,Nat.add_eq] at* <;>omega)
      |(refine Eq.symm ?_;simp only[Z2y,decide_eq_false_iff_not,Nat.add_eq] at* <;>omega))
def dw (p:List Nd) (F:List (By×Nat)) (op:Int):List Pth->Int
 |[]=> -1
 |c::t=>match oL F (aH c) with|some i=>if (p.getD i dN).op=op then (i:Int) else-1|none=>dw p F op t
theorem ij {p:List Nd} {F:List (By×Nat)} {op:Int} {c:Pth} {t:List Pth} {i:Nat} (h:oL F (aH c)=some i):dw p F op (c::t)=if (p.getD i dN).op=op then (i:Int) else-1:=by simp only[dw,h]
theorem ik {p:List Nd} {F:List (By×Nat)} {op:Int} {c:Pth} {t:List Pth} (h:oL F (aH c)=none):dw p F op (c::t)=dw p F op t:=by simp only[dw,h]
theorem ql:∀ {F:List (By×Nat)} {k:By} {i:Nat},oL F k=some i->(k,i)∈F
 |x::t,k,i,h=>by
  simp only[oL] at h;split at h
  ·grind
  ·exact .tail _ (ql h)
theorem jB (bs:List By) (s0:By):∀ (k:Nat),∀ c∈cC bs s0 k,c.root=true
 |0,c,h=>by simp[cC] at h;rw[h]
 |k+1,c,h=>by
  unfold cC at h;split at h
  ·exact jB bs s0 k c h
  ·rcases Z0h.1 h with rfl|h
   ·rfl
   ·exact jB bs s0 k c h
theorem jA {b r:Pth}:∀ c∈aU b r,c.root=true:=by
 grind [aU,jt,jB]
theorem lE (b r:Pth):(aU b r).length<=b.segs.length+1:=by
 grind [aU,gm]
abbrev anR (p:List Nd) (F:List (By×Nat)):Hp:=[(0,some {cells:=[.frz (λk=>ndC (p.getD k dN)) 4 p.length,.unk,.unk,.map (some 1)],ty:=186,more:=true,ro:=true}),(1,some {ca F with ro:=true})]
theorem kY (p:List Nd) (hp:p.length<=2048) (F:List (By×Nat)) (hF:∀ x∈F,x.2<p.length) (sc nm:Pth) (hs:sc.segs.length<=1000000) (op:Int):
 FQ 177 [.s (.ptr (some (0,0))),jh sc,jh nm,nI op] 2 (anR p F) (nI (dw p F op (aU sc nm))) 2 (anR p F):=by
 have hcd:=ve sc nm;have hroot:= @jA sc nm;have hcl:=lE sc nm
 have hzr:∀ w,(zeroValue 3).run Tryz.prog w=.ok (.int .i64 0) w:=λw=>by rw[Tryz.zeroValue3]
 generalize aU sc nm=cs at*;refine wW Tryz.func177 ?_
 repeat'(first|refine yA ?_|refine y2 ?_ ?_|refine an hcd ?_|exact y5|fail)
 refine cD (σ:=Nat) (λj=>[(17,nI j)]) (λj=>anR p F) (λj=>j<=cs.length/\dw p F op (cs.drop j)=dw p F op cs) (λj=>cs.length-j) 0 rfl (λ_=>rfl) ⟨Z08 _,rfl⟩ bc ⟨rfl,rfl,trivial⟩ ?_;rintro j ⟨j1,j2⟩;by_cases hj:j<cs.length
 ·rw[Z0k hj] at j2
  have hg:cs.getD j z0=cs[j]:=ae;have hrt:(cs.getD j z0).root=true:=ae;have hf:=ny (cs.getD j z0) hrt;rw[<-hg] at j2
  cases hl:oL F (aH (cs.getD j z0)) with
  |none=>
   rw[ik hl] at j2
   repeat'(first|refine y1 ?_|refine y2 ?_ ?_|refine y4 λh=>?_|refine an hf ?_|refine RegX.lkp none rfl rfl rfl rfl rfl hzr hl rfl ?_|refine y3 ?_|exact y5|fail)
   exact dT (j+1) ⟨hj,j2⟩ aa rfl bc ⟨rfl,rfl,trivial⟩ rfl rfl ac
  |some i=>
   rw[ij hl] at j2;have hi:i<p.length:=hF _ (ql hl)
   repeat'(first|refine y1 ?_|refine y2 ?_ ?_|refine y4 λh=>?_|refine an hf ?_|refine RegX.lkp (some i) rfl rfl rfl rfl rfl hzr hl rfl ?_|refine y3 ?_|exact y5|fail)
   all_goals try exact hi
   ·rw[<-j2,if_pos ‹_›]
    exact bD
   ·rw[<-j2,if_neg ‹_›]
    exact bD
 ·have hd:cs.drop j=[]:=ae
  rw[hd] at j2;simp only[dw] at j2;rw[<-j2]
  repeat'(first|refine yA ?_|refine y2 ?_ ?_|refine y4 λh=>?_|exact y5|fail)
  all_goals exact bD
def dI (i:Nat) (r:Bool) (G:List (Nat×Nat)):List (Nat×Nat):=if r then G else G++[(i,10)]
def bU (op:Int) (i:Nat) (lp:Bool) (G:List (Nat×Nat)):List (Nat×Nat):=if (op=34\/op=35)/\lp=false then G++[(i,8)] else G
def aK:Bool->Fo->Nat->Bool->Bool->List (Nat×Nat)->List (Nat×Nat)
 |_,.nil,_,_,_,G=>G
 |true,.cons x k n,i,lp,r,G=>aK true n (i+1+k.size) lp r (if x.op=4 then aK false k (i+1) lp true G else G)
 |false,.cons x k n,i,lp,r,G=>
  aK false n (i+1+k.size) lp (r&& !decide (x.op=33\/x.op=34\/x.op=35))
   (if x.op=31 then aK true k (i+1) lp true (bU x.op i lp (dI i r G)) else if x.op=32 then aK true k (i+1) true true (bU x.op i lp (dI i r G)) else bU x.op i lp (dI i r G))
theorem vN (op:Int) (i:Nat) (lp r:Bool) (G:List (Nat×Nat)):(bU op i lp (dI i r G)).length<=G.length+2:=by
 grind [bU,dI]
theorem za (i:Nat) (r:Bool) (G:List (Nat×Nat)):(dI i r G).length<=G.length+1:=by
 unfold dI
 grind
theorem ek:∀ (m:Bool) (t:Fo) (i:Nat) (lp r:Bool) (G:List (Nat×Nat)),(aK m t i lp r G).length<=G.length+2*t.size
 |true,.nil,_,_,_,_=>Z02 _
 |false,.nil,_,_,_,_=>Z02 _
 |true,.cons x k n,i,lp,r,G=>by
  simp only[aK,Fo.size];have h1:=ek true n (i+1+k.size) lp r (if x.op=4 then aK false k (i+1) lp true G else G);split at h1
  ·have h2:=ek false k (i+1) lp true G
   grind
  all_goals grind
 |false,.cons x k n,i,lp,r,G=>by
  simp only[aK,Fo.size];have h0:=vN x.op i lp r G;generalize bU x.op i lp (dI i r G)=G2 at*;have h1:=ek true k (i+1) lp true G2;have h2:=ek true k (i+1) true true G2;have h3:=ek false n (i+1+k.size) lp (r&& !decide (x.op=33\/x.op=34\/x.op=35)) (if x.op=31 then aK true k (i+1) lp true G2 else if x.op=32 then aK true k (i+1) true true G2 else G2)
  grind
theorem DI {op:Int} (h:bn 101 op=true): ¬op=4:=by
 intro e;subst e;revert h;decide
theorem rq {x:Nd} {k n:Fo} {cs:List (Bool×Int)} (hv:(Fo.cons x k n).V ((false,83)::cs)) (ho:x.op=31\/x.op=32):
 ∃ e ke rest,k=.cons e ke rest/\ ¬e.op=4/\rest.V (List.replicate rest.cnt (true,83))/\1<=rest.cnt/\(x.op=32->rest.cnt=1):=by
 obtain⟨_,hk,_⟩:=hv
 have key:∀ m:Nat,dj (aq x.op x.kids).1=(false,101)::List.replicate (m+1) (true,83)->(x.op=32->m=0)->∃ e ke rest,k=.cons e ke rest/\ ¬e.op=4/\rest.V (List.replicate rest.cnt (true,83))/\1<=rest.cnt/\(x.op=32->rest.cnt=1):=by
  intro m hs h0;rw[hs] at hk
  cases k with
  |nil=>exact hk.elim
  |cons e ke rest=>
   have hc:=Fo.V_cnt hk.2.2;rw[Z36] at hc;exact⟨e,ke,rest,rfl,DI hk.1.1,by rw[hc];exact hk.2.2,aa,λh=>by grind⟩
 rcases ho with ho|ho
 ·by_cases h3:x.kids=3
  ·refine key 1 ?_ (λh=>by omega)
   rw[ho,h3];rfl
  ·refine key 0 ?_ (λ_=>rfl)
   rw[ho];unfold aq;rw[if_neg ac,if_neg ac,if_neg ae];rfl
 ·refine key 0 ?_ (λ_=>rfl)
  rw[ho];rfl
abbrev oG (S:List Pth):Bl:={cells:=S.flatMap cX,ty:=99,sym:=true,flat:=true}
theorem rA:∀ {T:List Pth} {i:Nat} {q:Pth},i<T.length->bW (T.flatMap cX) (i*3) (cX q)=(T.set i q).flatMap cX
 |[],i,q,h=>by grind
 |p::T,0,q,_=>by
  simp only[Z0g,Z3k,Z24];have:=jN (cX q) [] (cX p++T.flatMap cX) (by simp[cX])
  simpa [cX] using this
 |p::T,i+1,q,h=>by
  simp only[Z0g,Z2j];have ih:=rA (T:=T) (i:=i) (q:=q) ae
  grind [cX,bW]
abbrev B3 (p:List Nd) (s:St):Hp:=[(0,some (eA p 3 s.D.length 6 s.G.length)),(1,some (oG s.S)),(3,jl 3 s.D),(5,some (ca s.F)),(6,bv 6 s.G)]
abbrev GL (p:List Nd) (s:St):Hp:=[(0,some (eA p 8 s.D.length 10 s.G.length)),(1,some (oG s.S)),(3,none),(6,none),(5,some (ca s.F)),(8,jl 8 s.D),(10,bv 10 s.G)]
def Cp (p:List Nd) (N:Nat):Prop:=∀ (x:Nd) (k:Fo) (c:Int) (i:Nat) (sc:Pth) (s:St),k.size<N->(c=68\/c=70)->(Fo.cons x k .nil).At p i->(Fo.cons x k .nil).V [(false,c)]->s.S.length=p.length->s.D.length<=i->s.G.length<=i->
 FQ 173 [.s (.ptr (some (0,0))),nI i,jh sc] 8 (B3 p s) (nI (i+1+k.size:Nat)) 12 (GL p (aX false (.cons x k .nil) i sc s))
theorem Gq (p:List Nd) (hp:p.length<=2048) (hw:mG p) (N:Nat) (ih:Cp p N):Cp p (N+1):=by
 intro x k c i sc s hN hc ha hv hS hD hG;have hi:=At.lt ha;have hx:=At.get ha;obtain⟨hi1,hnm⟩:=ly hc ha hv;have hpa:=jW p hw (i+1) hi1;have hend:=Bd p hp i (i+1+k.size) (At.ends1 ha);have hse:(Tryz.prog.types[99]).size=3:=bd
 have hcat:bT 0 (bS i (Tryz.prog.types[99]).size)=i*3:=by rw[hse,aL,bB,Z0c]
 have hjn:=AA sc (aw k);rw[hnm] at hjn;generalize hhd:co x (aw k) i sc s=hd;obtain⟨inner,s1⟩:=hd
 have hfin:aX false (.cons x k .nil) i sc s=if ge x.op then aX true k (i+1) inner s1 else s1:=by simp only[aX,hhd]
 have hlen:=pc x (aw k) i sc s;rw[hhd] at hlen;simp only at hlen;rw[hfin];unfold co at hhd;rw[hnm] at hhd;rw[<-hx] at hhd;have hjr:= @jt sc (ak (p.getD (i+1) dN).str).1;generalize au sc (ak (p.getD (i+1) dN).str).1=jj at*;obtain⟨jp,jok⟩:=jj;refine wW Tryz.func173 ?_
 repeat'(first|refine yA ?_|refine y2 ?_ ?_|exact y5|fail)
 ·refine RegX.sto [.cells ((s.S.set i sc).flatMap cX)] rfl rfl ⟨?_,?_⟩ rfl ?_
  ·grind [dz]
  ·rw[hcat];exact (rA aa).symm
  repeat'(first|refine Ex.cutB 0 107 14 [(0,.s (.ptr (some (0,0)))),(1,nI i),(7,.s (.ptr (some (9,0)))),(8,nI (p.getD i dN).op)] [(0,some (eA p 10 s1.D.length 12 s1.G.length)),(1,some (oG s1.S)),(5,some (ca s1.F)),(9,some {cells:=cX inner,ty:=99}),(10,jl 10 s1.D),(12,bv 12 s1.G)] rfl ?_ ?_|refine y1 ?_|refine y2 ?_ ?_|refine y4 λh=>?_|refine y3 ?_|exact y5|fail)
  ·cases jok
   ·rw[if_pos ‹(p.getD i dN).op=10›,if_neg av] at hhd
    cases hhd
    repeat'(first|refine yA ?_|refine y2 ?_ ?_|(refine wX ?_;refine g7 [0] 0 hpa ?_ (hle:=by exact⟨ah _,bp (congrArg nI (by push_cast;rfl)),trivial⟩))|refine an hjn ?_|(refine wX ?_;refine ot [0,1,2,3,4,5,6,7] (cL p s.D.length s.G i 2 aa) rfl (bI rfl rfl rfl) rfl rfl rfl bc mF rfl rfl (wr:=[(0,some (eA p 3 s.D.length 11 (s.G.length+1))),(6,none),(11,bv 11 (s.G++[(i,2)]))]) (by show [_,_,_]=_;rw[aP];rfl) ?_)|exact y5|fail)
    rw[show (St.rep (s.sc i sc) i 2).G.length=s.G.length+1 from by simp[St.rep,St.sc]];refine fu [0,1,2,3,4,5,6,7,8,9,3,4,11,12] rfl rfl ⟨ah _,ah _,ah _,ah _,trivial⟩ ⟨rfl,rfl,rfl,rfl,bN rfl (bN rfl trivial)⟩ ?_
    (unfold jl bv;generalize List.flatMap gZ _=cd;generalize List.flatMap bX _=cg;cases cd<;>cases cg<;>rfl)
   ·rw[if_pos ‹(p.getD i dN).op=10›,if_pos rfl] at hhd
    cases hhd
    repeat'(first|refine yA ?_|refine y2 ?_ ?_|(refine wX ?_;refine g7 [0] 0 hpa ?_ (hle:=by exact⟨ah _,bp (congrArg nI (by push_cast;rfl)),trivial⟩))|refine an hjn ?_|exact y5|fail)
    refine fu [0,1,2,3,4,5,6,7,8,9,3,4,6,7] rfl rfl ⟨ah _,ah _,ah _,ah _,trivial⟩ ⟨rfl,rfl,rfl,rfl,bN rfl (bN rfl trivial)⟩ ?_
    (unfold jl bv;generalize List.flatMap gZ _=cd;generalize List.flatMap bX _=cg;cases cd<;>cases cg<;>rfl)
  ·rw[if_neg aa,if_pos aa] at hhd
   cases hhd;refine fu [0,1,2,3,4,5,6,7,8,9,3,4,6,7] rfl rfl ⟨ah _,ah _,ah _,ah _,trivial⟩ ⟨rfl,rfl,rfl,rfl,bN rfl (bN rfl trivial)⟩ ?_
   (unfold jl bv;generalize List.flatMap gZ _=cd;generalize List.flatMap bX _=cg;cases cd<;>cases cg<;>rfl)
  ·rw[if_neg aa,if_pos aa] at hhd
   cases hhd;refine fu [0,1,2,3,4,5,6,7,8,9,3,4,6,7] rfl rfl ⟨ah _,ah _,ah _,ah _,trivial⟩ ⟨rfl,rfl,rfl,rfl,bN rfl (bN rfl trivial)⟩ ?_
   (unfold jl bv;generalize List.flatMap gZ _=cd;generalize List.flatMap bX _=cg;cases cd<;>cases cg<;>rfl)
  ·rw[if_neg aa,if_pos aa] at hhd
   cases hhd;refine fu [0,1,2,3,4,5,6,7,8,9,3,4,6,7] rfl rfl ⟨ah _,ah _,ah _,ah _,trivial⟩ ⟨rfl,rfl,rfl,rfl,bN rfl (bN rfl trivial)⟩ ?_
   (unfold jl bv;generalize List.flatMap gZ _=cd;generalize List.flatMap bX _=cg;cases cd<;>cases cg<;>rfl)
  ·cases jok
   ·rw[if_neg aa,if_neg aa,if_neg av] at hhd
    cases hhd
    repeat'(first|refine yA ?_|refine y2 ?_ ?_|(refine wX ?_;refine g7 [0] 0 hpa ?_ (hle:=by exact⟨ah _,bp (congrArg nI (by push_cast;rfl)),trivial⟩))|refine an hjn ?_|(refine wX ?_;refine ot [0,1,2,3,4,5,6,7] (cL p s.D.length s.G i 2 aa) rfl (bI rfl rfl rfl) rfl rfl rfl bc mF rfl rfl (wr:=[(0,some (eA p 3 s.D.length 11 (s.G.length+1))),(6,none),(11,bv 11 (s.G++[(i,2)]))]) (by show [_,_,_]=_;rw[aP];rfl) ?_)|exact y5|fail)
    rw[show (St.rep (s.sc i sc) i 2).G.length=s.G.length+1 from by simp[St.rep,St.sc]];refine fu [0,1,2,3,4,5,6,7,8,9,3,4,11,12] rfl rfl ⟨ah _,ah _,ah _,ah _,trivial⟩ ⟨rfl,rfl,rfl,rfl,bN rfl (bN rfl trivial)⟩ ?_
    (unfold jl bv;generalize List.flatMap gZ _=cd;generalize List.flatMap bX _=cg;cases cd<;>cases cg<;>rfl)
   ·rw[if_neg aa,if_neg aa,if_pos rfl] at hhd
    have hf:=ny jp (hjr rfl)
    repeat'(first|refine yA ?_|refine y2 ?_ ?_|refine y4 λh=>?_|(refine wX ?_;refine g7 [0] 0 hpa ?_ (hle:=by exact⟨ah _,bp (congrArg nI (by push_cast;rfl)),trivial⟩))|refine an hjn ?_|refine an hf ?_|(refine wX ?_;refine ot [0,1,2,3,4,5,6,7] (x8 p s.D s.F s.G i (aH jp) hi aa aa) rfl (bI (t:=[(5,some (ca s.F)),(6,bv 6 s.G)]) rfl rfl (bI rfl rfl rfl)) rfl rfl rfl bc ⟨⟨rfl,_,rfl,rfl,λh=>h⟩,Cm rfl rfl ⟨⟨rfl,_,rfl,rfl,λh=>h⟩,Cm rfl rfl trivial⟩⟩ rfl rfl (wr:=[(0,some (eA p 11 (s.D.length+1) 13 (lz s.F s.G (aH jp) i).length)),(3,none),(6,none),(5,some (ca (oR s.F (aH jp) i))),(11,jl 11 (s.D++[⟨aH jp,(p.getD i dN).op,i⟩])),(13,bv 13 (lz s.F s.G (aH jp) i))]) (by show [_,_,_,_,_,_]=_;rw[aP,aP];rfl) ?_)|exact y5|fail)
    all_goals
     first
      |rw[if_pos aa] at hhd
      |rw[if_neg aa] at hhd
     cases hhd;rw[show (St.dec (s.sc i sc) i (aH jp) (p.getD i dN).op).D.length=s.D.length+1 from by simp[St.dec,St.sc]];refine fu [0,1,2,3,4,5,6,7,8,9,11,12,13,14] rfl rfl ⟨ah _,ah _,ah _,ah _,trivial⟩ ⟨rfl,rfl,rfl,rfl,bN rfl (bN rfl trivial)⟩ ?_
     (unfold jl bv;generalize List.flatMap gZ _=cd;generalize List.flatMap bX _=cg;cases cd<;>cases cg<;>rfl)
  ·have hbl:ge x.op=decide ((p.getD i dN).op=10\/(p.getD i dN).op=11\/(p.getD i dN).op=12\/(p.getD i dN).op=16\/(p.getD i dN).op=17):=by rw[hx];rfl
   cases hb:ge x.op
   ·rw[hb] at hbl
    have hbl:=of_decide_eq_false hbl.symm;simp only[Z0l,if_false]
    repeat'(first|refine Ex.cutS 21 107 14 [(0,.s (.ptr (some (0,0)))),(1,nI i),(7,.s (.ptr (some (9,0)))),(13,nI (i+1+k.size:Nat)),(83,bV false)] [(0,some (eA p 10 s1.D.length 12 s1.G.length)),(1,some (oG s1.S)),(5,some (ca s1.F)),(9,some {cells:=cX inner,ty:=99}),(10,jl 10 s1.D),(12,bv 12 s1.G)] rfl ?_ ?_|refine y1 ?_|refine y2 ?_ ?_|refine y4 λh=>?_|refine wX (g7 [0] 0 hend ?_)|refine y3 ?_|exact y5|fail)
    ·refine fu [0,1,2,3,4,5,6,7,8,9,10,11,12,13] rfl rfl ⟨ah _,ah _,ah _,ah _,ah _,trivial⟩ ⟨rfl,rfl,rfl,rfl,bN rfl (bN rfl trivial)⟩ ?_
     (unfold jl bv;generalize List.flatMap gZ _=cd;generalize List.flatMap bX _=cg;cases cd<;>cases cg<;>rfl)
    ·refine⟨.inl rfl,_,[10,11,12,13],ah _,hY rfl ?_ rfl ?_ rfl rfl⟩
     ·exact⟨rfl,rfl,rfl,bN rfl (bN rfl trivial)⟩
     ·(unfold GL jl bv;generalize List.flatMap gZ _=cd;generalize List.flatMap bX _=cg;cases cd<;>cases cg<;>rfl)
   ·rw[hb] at hbl
    have hbl:=of_decide_eq_true hbl.symm;simp only[if_true];obtain⟨m,c',bl,hm4,hc',hblV,hblA,hks,hkc,hst,hdec⟩:=Bs ha hv hb;have hcs:=bH k (i+1);have hchn:=At.chain ha.2.2.1
    have hkid:(p.getD i dN).kids=((k.starts (i+1)).length:Nat):=by rw[hx,hcs];exact ha.2.1
    rw[hkc] at hcs;generalize k.starts (i+1)=cs at*;have hsz:=At.size_le (Z1k (At.lt ha)) ha;simp only[Fo.size] at hsz;have hch:=fh p hp i (i+1+k.size) hi cs hkid hchn aa;have hk1:(cs.length:Int)-1=(m:Nat):=aa
    repeat'(first|refine Ex.cutS 21 107 14 [(0,.s (.ptr (some (0,0)))),(1,nI i),(7,.s (.ptr (some (9,0)))),(13,nI (i+1+k.size:Nat)),(83,bV true)] [(0,some (eA p 10 s1.D.length 12 s1.G.length)),(1,some (oG s1.S)),(5,some (ca s1.F)),(9,some {cells:=cX inner,ty:=99}),(10,jl 10 s1.D),(12,bv 12 s1.G)] rfl ?_ ?_|refine y1 ?_|refine y2 ?_ ?_|refine y4 λh=>?_|refine wX (g7 [0] 0 hend ?_)|refine wX (g7 [0] 0 hch ?_)|refine y3 ?_|exact y5|fail)
    all_goals try (refine fu [0,1,2,3,4,5,6,7,8,9,10,11,12,13] rfl rfl ⟨ah _,ah _,ah _,ah _,ah _,trivial⟩ ⟨rfl,rfl,rfl,rfl,bN rfl (bN rfl trivial)⟩ ?_;(unfold jl bv;generalize List.flatMap gZ _=cd;generalize List.flatMap bX _=cg;cases cd<;>cases cg<;>rfl))
    refine RegX.chunkN 4 rfl rfl ?_ (RegX.eqv 95 (congrArg nI hk1) rfl ?_)
    all_goals
     repeat'(first|refine yA ?_|refine y2 ?_ ?_|exact y5|fail)
    refine cD (σ:=Fo×Nat×St) (λq=>[(15,nI q.2.1)]) (λq=>[(0,some (eA p 10 q.2.2.D.length 12 q.2.2.G.length)),(1,some (oG q.2.2.S)),(5,some (ca q.2.2.F)),(9,some {cells:=cX inner,ty:=99}),(10,jl 10 q.2.2.D),(12,bv 12 q.2.2.G)])
     (λq=>q.1.At p q.2.1/\q.1.V (List.replicate q.1.cnt (false,c'))/\(i+2<=q.2.1/\q.2.1+q.1.size=i+1+k.size)/\q.2.2.S.length=p.length/\q.2.2.D.length<=q.2.1/\q.2.2.G.length<=q.2.1/\aX false q.1 q.2.1 inner q.2.2=aX true k (i+1) inner s1) (λq=>q.1.size) (bl,i+1+m+1,s1) rfl (λ_=>rfl) ?_ ?_ ?_ ?_
    ·grind
    ·exact⟨bp (congrArg nI ae),trivial⟩
    ·exact⟨rfl,rfl,rfl,rfl,iN rfl (iN rfl trivial)⟩
    ·rintro⟨t,j,st⟩ ⟨t1,t2,⟨t0,t3⟩,t4,t5,t6,t7⟩
     simp only at t0 t1 t2 t3 t4 t5 t6 t7 |-
     cases t with
     |nil=>
      simp only[Fo.size,Z0p] at t3;subst t3;simp only[aX] at t7;rw[<-t7]
      repeat'(first|refine yA ?_|refine y2 ?_ ?_|refine y4 λh=>?_|exact y5|fail)
      refine⟨.inl rfl,_,[10,11,12,13],ah _,hY rfl ?_ rfl ?_ rfl rfl⟩
      ·exact⟨rfl,rfl,rfl,bN rfl (bN rfl trivial)⟩
      ·(unfold GL jl bv;generalize List.flatMap gZ _=cd;generalize List.flatMap bX _=cg;cases cd<;>cases cg<;>rfl)
     |cons x' k' n'=>
      simp only[Fo.size] at t3
      have hr:aX false (.cons x' k' n') j inner st=aX false n' (j+1+k'.size) inner (aX false (.cons x' k' .nil) j inner st):=by simp only[aX]
      rw[hr] at t7;have hl:=cQ false (.cons x' k' .nil) j inner st;simp only[Fo.size,Z0p] at hl;have hrec:=ih x' k' c' j inner st aa hc' ⟨t1.1,t1.2.1,t1.2.2.1,trivial⟩ ⟨t2.1,t2.2.1,trivial⟩ t4 t5 t6;generalize aX false (.cons x' k' .nil) j inner st=st' at*
      have k2:e_ 8 (B3 p st)=true:=by (unfold B3 jl bv;generalize List.flatMap gZ _=cd;generalize List.flatMap bX _=cg;cases cd<;>cases cg<;>rfl)
      repeat'(first|refine yA ?_|refine y2 ?_ ?_|refine y4 λh=>?_|(refine wX ?_;refine ot [0,1,2,10,11,5,12,13] hrec rfl k2 rfl rfl rfl bc ⟨⟨rfl,_,rfl,rfl,λh=>h⟩,⟨rfl,_,rfl,rfl,λh=>h⟩,Cm rfl rfl ⟨⟨rfl,_,rfl,rfl,λh=>h⟩,Cm rfl rfl trivial⟩⟩ rfl rfl (wr:=[(0,some (eA p 14 st'.D.length 16 st'.G.length)),(1,some (oG st'.S)),(10,none),(12,none),(5,some (ca st'.F)),(14,jl 14 st'.D),(16,bv 16 st'.G)]) (by show [_,_,_,_,_,_,_]=_;rw[aP,aP];rfl) ?_)|exact y5|fail)
      refine fq (n',j+1+k'.size,st') ⟨t1.2.2.2,t2.2.2,⟨ae,ae⟩,ae,ae,ae,t7⟩ (by simp only[Fo.size];omega) [0,1,2,3,4,5,6,7,8,9,14,15,16,17] rfl ?_ ?_ ?_
      ·repeat'(first|exact ah _|exact cT _|exact Z0o|refine⟨?_,?_⟩)
      ·exact⟨rfl,rfl,rfl,rfl,bN rfl (bN rfl trivial)⟩
      ·(unfold jl bv;generalize List.flatMap gZ _=cd;generalize List.flatMap bX _=cg;cases cd<;>cases cg<;>rfl)
theorem tg (p:List Nd) (hp:p.length<=2048) (hw:mG p):∀ N,Cp p N
 |0=>λx k c i sc s h=>absurd h (Z1m _)
 |N+1=>Gq p hp hw N (tg p hp hw N)
theorem SubF.cons {i:Nat} {bl bl':Bl} {L L':Hp} (hr:bl'.ro=bl.ro) (hb:∀ φ w b,BlAt φ w b bl->BlAt φ w b bl') (h:SubF L' L):SubF ((i,some bl')::L') ((i,some bl)::L):=by
 intro j c hj;rw[aQ] at hj |-;split at hj
 ·grind
 ·rw[if_neg ‹_›];exact h j c hj
theorem C2 (n:Nat):All2 SLe (rep n [S.bool false,S.int IntKind.i64 0,S.slc none 0 (some 0)]) ((List.replicate n z0).flatMap cX):=by
 refine All2.of_get (by rw[e8,dz];simp) λi a b ha hb=>?_
 have hi:i<n*3:=by
  grind [e8]
 rw[pV _ _ _ hi] at ha;have hk:i/3<(List.replicate n z0).length:=ae;have hg:(List.replicate n z0).getD (i/3) z0=z0:=ae
 have hx:∀ x,(cX z0)[i%3]? =some x->((List.replicate n z0).flatMap cX)[i]? =some x:=λx hx=>by
  have:=(iT (l:=List.replicate n z0) (k:=i/3) (j:=i%3) (x:=x) hk ae).1
  grind
 have hm:i%3<3:=Nat.mod_lt _ ac;have ha:[S.bool false,S.int IntKind.i64 0,S.slc none 0 (some 0)][i%3]? =some a:=ha;generalize i%3=m at*
 match m,hm with
 |0,_=>rw[hx _ rfl] at hb;cases hb;cases ha;exact SLe.refl _
 |1,_=>rw[hx _ rfl] at hb;cases hb;cases ha;exact SLe.refl _
 |2,_=>rw[hx _ rfl] at hb;cases hb;cases ha;exact SLe.nil
def tS (p:List Nd):St:=⟨List.replicate p.length z0,[],[],[]⟩
def anS (p:List Nd) (t:Fo):St:=aX false t 0 ⟨true,0,[]⟩ (tS p)
theorem yk (p:List Nd) (hp:p.length<=2048) (hw:mG p) (t:Fo) (ha:t.At p 0) (hv:t.V (List.replicate t.cnt (false,68))) (hs:t.size=p.length):
 FQ 115 [ao p] 0 [] (.s (.ptr (some (0,0)))) 8 (B3 p (anS p t)):=by
 have hsz:(Tryz.prog.types[99]).size=3:=bd;have hby:(Tryz.prog.types[99]).bytes=40:=bd;generalize hU:anS p t=U;refine wW Tryz.func115 ?_
 repeat'(first|refine yA ?_|refine y2 ?_ ?_|exact y5|fail)
 refine kO [.idx p.length,.idx p.length] rfl rfl ?_ ?_
 ·grind
 repeat'(first|refine y1 ?_|refine y2 ?_ ?_|refine RegX.mkm rfl ?_|refine y3 ?_|exact y5|fail)
 refine Ex.subF (L':=[(0,some (oG (List.replicate p.length z0))),(1,some (ca [])),(2,some {cells:=[.frz (λk=>ndC (p.getD k dN)) 4 p.length,.slc (some (0,0)) p.length (some p.length),.row 3 4 0,.map (some 1),.row 5 6 0],ty:=186})]) ?_ ?_
 ·refine SubF.cons rfl ?_ (SubF.cons rfl ?_ (SubF.cons rfl ?_ (SubF.refl _)))
  ·exact λφ w b h=>BlAt.cells (C2 p.length) h
  ·grind
  ·exact λφ w b h=>BlAt.cells (bl:={cells:=[.frz (λk=>ndC (p.getD k dN)) 4 p.length,.slc (some (0,0)) p.length (some p.length),.slc none 0 (some 0),.map (some 1),.slc none 0 (some 0)],ty:=186}) (cs:=[.frz (λk=>ndC (p.getD k dN)) 4 p.length,.slc (some (0,0)) p.length (some p.length),.row 3 4 0,.map (some 1),.row 5 6 0]) ⟨SLe.refl _,SLe.refl _,SLe.nilrow,SLe.refl _,SLe.nilrow,trivial⟩ h
 refine Cy [2,0,7,3,4,1,5,6] 21 [(0,ao p),(3,.s (.ptr (some (0,0)))),(4,nI 0)] (B3 p (tS p)) rfl rfl ⟨ah _,ah _,ah _,trivial⟩ ⟨rfl,rfl,rfl,trivial⟩ rfl ?_
 refine cD (σ:=Fo×Nat×St) (λq=>[(4,nI q.2.1)]) (λq=>B3 p q.2.2)
  (λq=>q.1.At p q.2.1/\q.1.V (List.replicate q.1.cnt (false,68))/\q.2.1+q.1.size=p.length/\q.2.2.S.length=p.length/\q.2.2.D.length<=q.2.1/\q.2.2.G.length<=q.2.1/\aX false q.1 q.2.1 ⟨true,0,[]⟩ q.2.2=U) (λq=>q.1.size) (t,0,tS p) rfl (λ_=>rfl) ?_ ?_ ?_ ?_
 ·exact⟨ha,hv,ae,by simp[tS],Z02 _,Z02 _,hU⟩
 ·exact bc
 ·exact⟨rfl,rfl,rfl,trivial⟩
 ·rintro⟨t,j,s⟩ ⟨t1,t2,t3,t4,t5,t6,t7⟩
  simp only at t1 t2 t3 t4 t5 t6 t7 |-
  cases t with
  |nil=>
   simp only[Fo.size,Z0p] at t3;simp only[aX] at t7;subst t7
   repeat'(first|refine yA ?_|refine y2 ?_ ?_|refine y4 λh=>?_|exact y5|fail)
   refine⟨.inl rfl,_,[0,1,2,3,4,5,6,7],ah _,hY rfl ?_ rfl ?_ rfl rfl⟩
   ·exact⟨rfl,rfl,bN rfl ⟨rfl,bN rfl trivial⟩⟩
   ·(unfold B3 jl bv;generalize List.flatMap gZ _=cd;generalize List.flatMap bX _=cg;cases cd<;>cases cg<;>rfl)
  |cons x k n=>
   simp only[Fo.size] at t3
   have hr:aX false (.cons x k n) j ⟨true,0,[]⟩ s=aX false n (j+1+k.size) ⟨true,0,[]⟩ (aX false (.cons x k .nil) j ⟨true,0,[]⟩ s):=by simp only[aX]
   rw[hr] at t7;have hl:=cQ false (.cons x k .nil) j ⟨true,0,[]⟩ s;simp only[Fo.size,Z0p] at hl;have hrec:=tg p hp hw (k.size+1) x k 68 j ⟨true,0,[]⟩ s (Z1t _) (.inl rfl) ⟨t1.1,t1.2.1,t1.2.2.1,trivial⟩ ⟨t2.1,t2.2.1,trivial⟩ t4 t5 t6;generalize aX false (.cons x k .nil) j ⟨true,0,[]⟩ s=s' at*
   have k2:e_ 8 (B3 p s)=true:=by (unfold B3 jl bv;generalize List.flatMap gZ _=cd;generalize List.flatMap bX _=cg;cases cd<;>cases cg<;>rfl)
   repeat'(first|refine yA ?_|refine y2 ?_ ?_|refine y4 λh=>?_|(refine wX ?_;refine ot [0,1,2,3,4,5,6,7] hrec rfl k2 rfl rfl rfl ⟨ah _,ah _,VLe.agg ⟨SLe.refl _,SLe.refl _,SLe.nil,trivial⟩,trivial⟩ ⟨⟨rfl,_,rfl,rfl,λh=>h⟩,⟨rfl,_,rfl,rfl,λh=>h⟩,Cm rfl rfl ⟨⟨rfl,_,rfl,rfl,λh=>h⟩,Cm rfl rfl trivial⟩⟩ rfl rfl (wr:=[(0,some (eA p 8 s'.D.length 10 s'.G.length)),(1,some (oG s'.S)),(3,none),(6,none),(5,some (ca s'.F)),(8,jl 8 s'.D),(10,bv 10 s'.G)]) (by show [_,_,_,_,_,_,_]=_;rw[aP,aP];rfl) ?_)|exact y5|fail)
   refine fq (n,j+1+k.size,s') ⟨t1.2.2.2,t2.2.2,ae,ae,ae,ae,t7⟩ (by simp only[Fo.size];omega) [0,1,2,8,9,5,10,11] rfl ?_ ?_ ?_
   ·repeat'(first|exact ah _|exact cT _|exact Z0o|refine⟨?_,?_⟩)
   ·exact⟨rfl,rfl,bN rfl ⟨rfl,bN rfl trivial⟩⟩
   ·(unfold B3 jl bv;generalize List.flatMap gZ _=cd;generalize List.flatMap bX _=cg;cases cd<;>cases cg<;>rfl)
