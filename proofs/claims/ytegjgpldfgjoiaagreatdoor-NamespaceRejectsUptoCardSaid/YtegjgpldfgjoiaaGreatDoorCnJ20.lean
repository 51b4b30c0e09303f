import Derived.Test.YtegjgpldfgjoiaaGreatDoorCnJ19
set_option linter.all false
set_option maxHeartbeats 40000000
set_option maxRecDepth 100000
namespace Go.Proofs.YtegjgpldfgjoiaaGreatDoor
open Go Ab
def cv (x:Nat×Nat):List S:=[.int .i64 (x.1:Int),.int .i64 (x.2:Int)]
structure Dc where
 path:By
 op:Int
 node:Nat
def mw (x:Dc):List S:=[.str x.path,.int .i64 x.op,.int .i64 (x.node:Int)]
abbrev fJ (p:List Nd) (d nD g nG:Nat):Bl:=
 {cells:=[.frz (λk=>ndC (p.getD k dN)) 4 p.length,.slc (some (1,0)) p.length (some p.length),.row d (d+1) nD,.map (some 5),.row g (g+1) nG],ty:=186}
abbrev bM (g:Nat) (G:List (Nat×Nat)):Option Bl:=fq 112 (g+1) 2 (G.flatMap cv)
abbrev l_ (d:Nat) (D:List Dc):Option Bl:=fq 58 (d+1) 3 (D.flatMap mw)
theorem yS:∀ G:List (Nat×Nat),(G.flatMap cv).length=G.length*2
 |[]=>rfl
 |x::G=>by rw[Z0g,Z03,yS G];simp only[Z04];simp[cv];omega
theorem yT:∀ D:List Dc,(D.flatMap mw).length=D.length*3
 |[]=>rfl
 |x::D=>by rw[Z0g,Z03,yT D];simp only[Z04];simp[mw];omega
theorem H5 (G:List (Nat×Nat)) (x:Nat×Nat):(G++[x]).flatMap cv=G.flatMap cv++cv x:=ae
theorem H7 (D:List Dc) (x:Dc):(D++[x]).flatMap mw=D.flatMap mw++mw x:=ae
theorem dh (p:List Nd) (nD:Nat) (G:List (Nat×Nat)) (i c:Nat) (hG:G.length<=1000000000000):
 FQ 117 [.s (.ptr (some (0,0))),nI i,nI c] 8 [(0,some (fJ p 3 nD 6 G.length)),(6,bM 6 G)] .any 10 [(0,some (fJ p 3 nD 8 (G.length+1))),(6,none),(8,bM 8 (G++[(i,c)]))]:=by
 have hsz:(Tryz.prog.types[112]).size=2:=aK;have hby:(Tryz.prog.types[112]).bytes=16:=aK;rw[bM,bM,H5];refine wW Tryz.func117 ?_
 repeat'(first|refine yA ?_|refine y2 ?_ ?_|exact y5|fail)
 ·refine gZ (i:=6) (g:=7) (m:=G.length) (w:=2) (cs:=G.flatMap cv) (foot:=[8]) (k:=1) (add:=cv (i,c)) rfl rfl (yS G) rfl rfl rfl rfl rfl rfl rfl hsz ac rfl ⟨Z02 _,rfl⟩ ac (by simp[cv]) rfl ?_ aa rfl ?_
  ·grind
  repeat'(first|refine yA ?_|refine y2 ?_ ?_|exact y5|fail)
  refine⟨.inr rfl,.tup [],[9,10],dd _,fY rfl ?_ rfl ?_ rfl rfl⟩
  ·refine⟨rfl,bh rfl trivial⟩
  ·refine (bS rfl rfl rfl)
def rm (F:List (By×Nat)) (path:By) (i:Nat):List (By×Nat):=match q_ F path with|some _=>F|none=>F++[(path,i)]
def nk (F:List (By×Nat)) (G:List (Nat×Nat)) (path:By) (i:Nat):List (Nat×Nat):=match q_ F path with|some _=>G++[(i,3)]|none=>G
theorem Cg (p:List Nd) (D:List Dc) (F:List (By×Nat)) (G:List (Nat×Nat)) (i:Nat) (path:By) (hi:i<p.length) (hD:D.length<=1000000000000) (hG:G.length<=1000000000000):
 FQ 226 [.s (.ptr (some (0,0))),nI i,sV path] 8 [(0,some (fJ p 3 D.length 6 G.length)),(3,l_ 3 D),(5,some (cF F)),(6,bM 6 G)] .any 12
  [(0,some (fJ p 8 (D.length+1) 10 (nk F G path i).length)),(3,none),(6,none),(5,some (cF (rm F path i))),(8,l_ 8 (D++[⟨path,(p.getD i dN).op,i⟩])),(10,bM 10 (nk F G path i))]:=by
 have hsz:(Tryz.prog.types[58]).size=3:=aK;have hby:(Tryz.prog.types[58]).bytes=32:=aK
 have hzr:∀ w,(zeroValue 3).run Tryz.prog w=.ok (.int .i64 0) w:=λw=>by rw[Tryz.zeroValue3]
 rw[l_,l_,H7];refine wW Tryz.func226 ?_
 cases hl:q_ F path with
 |some v=>
  have e1:rm F path i=F:=by unfold rm;rw[hl]
  have e2:nk F G path i=G++[(i,3)]:=by unfold nk;rw[hl]
  rw[e1,e2,Z03,Z0n]
  repeat'(first|refine y1 ?_|refine y2 ?_ ?_|refine RegX.lkp (some v) rfl rfl rfl rfl rfl hzr hl rfl ?_|refine y3 ?_|exact y5|fail)
  refine RegX.atCall (kF [0,1,2,3,4,5,6,7] (dh p D.length G i 3 hG) rfl (bS rfl rfl rfl) rfl rfl rfl aP pi rfl rfl (wr:=[(0,some (fJ p 3 D.length 8 (G.length+1))),(6,none),(8,bM 8 (G++[(i,3)]))]) ?_ ?_)
  ·show [_,_,_]=_;rw[az];rfl
  repeat'(first|refine yA ?_|refine y2 ?_ ?_|exact y5|fail)
  refine gZ (i:=3) (g:=4) (m:=D.length) (w:=3) (cs:=D.flatMap mw) (foot:=[10]) (k:=1) (add:=mw ⟨path,(p.getD i dN).op,i⟩) rfl rfl (yT D) rfl rfl rfl rfl rfl rfl rfl hsz ac rfl ⟨Z02 _,rfl⟩ ac (by simp[mw]) rfl ?_ aa rfl ?_
  ·grind
  repeat'(first|refine yA ?_|refine y2 ?_ ?_|exact y5|fail)
  refine⟨.inr rfl,.tup [],[11,12,8,9],dd _,fY rfl ?_ rfl ?_ rfl rfl⟩
  ·exact⟨rfl,rfl,bh rfl (bh rfl trivial)⟩
  ·exact bS (t:=[(10,bM 10 (G++[(i,3)]))]) rfl rfl (bS rfl rfl rfl)
 |none=>
  have e1:rm F path i=F++[(path,i)]:=by unfold rm;rw[hl]
  have e2:nk F G path i=G:=by unfold nk;rw[hl]
  rw[e1,e2]
  repeat'(first|refine y1 ?_|refine y2 ?_ ?_|refine RegX.lkp none rfl rfl rfl rfl rfl hzr hl rfl ?_|refine RegX.mup i rfl rfl rfl rfl rfl rfl rfl hl rfl ?_|refine y3 ?_|exact y5|fail)
  refine gZ (i:=3) (g:=4) (m:=D.length) (w:=3) (cs:=D.flatMap mw) (foot:=[8]) (k:=1) (add:=mw ⟨path,(p.getD i dN).op,i⟩) rfl rfl (yT D) rfl rfl rfl rfl rfl rfl rfl hsz ac rfl ⟨Z02 _,rfl⟩ ac (by simp[mw]) rfl ?_ aa rfl ?_
  ·grind
  repeat'(first|refine yA ?_|refine y2 ?_ ?_|exact y5|fail)
  refine⟨.inr rfl,.tup [],[9,10,6,7],dd _,uI rfl ?_ rfl ?_ rfl ?_ ?_⟩
  ·exact⟨rfl,rfl,bh rfl (bh rfl trivial)⟩
  ·exact bS (t:=[(10,bM 10 G)]) rfl rfl (bS rfl rfl rfl)
  ·rcases G with _|⟨x,G⟩<;>rcases D with _|⟨y,D⟩<;>rfl
  ·rcases G with _|⟨x,G⟩<;>rcases D with _|⟨y,D⟩<;>rfl
section
variable {cs:List (Bool×Int)} {c:Int} {t:Fo}
structure St where
 S:List Pth
 D:List Dc
 F:List (By×Nat)
 G:List (Nat×Nat)
def St.rep (s:St) (i c:Nat):St:={s with G:=s.G++[(i,c)]}
def St.dec (s:St) (i:Nat) (path:By) (op:Int):St:={S:=s.S,D:=s.D++[⟨path,op,i⟩],F:=rm s.F path i,G:=nk s.F s.G path i}
def St.sc (s:St) (i:Nat) (sc:Pth):St:={s with S:=s.S.set i sc}
def aw:Fo->Pth
 | .cons y _ _=>(ai y.str).1
 | .nil=>z0
def cN (x:Nd) (nm:Pth) (i:Nat) (sc:Pth) (s:St):Pth×St:=
 if x.op=10 then (if (ax sc nm).2 then ((ax sc nm).1,s.sc i sc) else (sc,(s.sc i sc).rep i 2))
 else if x.op=16\/x.op=17\/x.op=19 then (sc,s.sc i sc)
 else if (ax sc nm).2 then (if x.op=11\/x.op=12 then (ax sc nm).1 else sc,(s.sc i sc).dec i (aM (ax sc nm).1) x.op)
 else (sc,(s.sc i sc).rep i 2)
def gw (op:Int):Bool:=decide (op=10\/op=11\/op=12\/op=16\/op=17)
def bn:Bool->Fo->Nat->Pth->St->St
 |_,.nil,_,_,s=>s
 |true,.cons x k n,i,sc,s=>if x.op=4 then bn false k (i+1) sc s else bn true n (i+1+k.size) sc s
 |false,.cons x k n,i,sc,s=>
  bn false n (i+1+k.size) sc (if gw x.op then bn true k (i+1) (cN x (aw k) i sc s).1 (cN x (aw k) i sc s).2 else (cN x (aw k) i sc s).2)
theorem Fq (F:List (By×Nat)) (G:List (Nat×Nat)) (path:By) (i:Nat):(nk F G path i).length<=G.length+1:=by
 unfold nk;split<;>simp
theorem rT (x:Nd) (nm:Pth) (i:Nat) (sc:Pth) (s:St):(cN x nm i sc s).2.S.length=s.S.length/\(cN x nm i sc s).2.D.length<=s.D.length+1/\(cN x nm i sc s).2.G.length<=s.G.length+1:=by
 grind [St.sc,St.rep,St.dec,cN,Fq]
theorem dt:∀ (m:Bool) (t:Fo) (i:Nat) (sc:Pth) (s:St),(bn m t i sc s).S.length=s.S.length/\(bn m t i sc s).D.length<=s.D.length+t.size/\(bn m t i sc s).G.length<=s.G.length+t.size
 |true,.nil,_,_,s=>⟨rfl,Z02 _,Z02 _⟩
 |false,.nil,_,_,s=>⟨rfl,Z02 _,Z02 _⟩
 |true,.cons x k n,i,sc,s=>by
  simp only[bn,Fo.size];split
  ·have:=dt false k (i+1) sc s;omega
  ·have:=dt true n (i+1+k.size) sc s;omega
 |false,.cons x k n,i,sc,s=>by
  simp only[bn,Fo.size];have h:=rT x (aw k) i sc s;split
  ·have h1:=dt true k (i+1) (cN x (aw k) i sc s).1 (cN x (aw k) i sc s).2
   have h2:=dt false n (i+1+k.size) sc (bn true k (i+1) (cN x (aw k) i sc s).1 (cN x (aw k) i sc s).2);omega
  ·have h2:=dt false n (i+1+k.size) sc (cN x (aw k) i sc s).2
   omega
theorem iE (h:t.V []):t=.nil:=by
 grind [Fo.V]
theorem uK {sl:Bool×Int} (h:t.V (sl::cs)):∃ y k n,t=.cons y k n/\n.V cs:=by
 cases t with
 |nil=>exact h.elim
 |cons x k n=>
  obtain⟨b,c⟩:=sl;cases b
  ·exact⟨x,k,n,rfl,h.2.2⟩
  ·exact⟨x,k,n,rfl,h.2.2⟩
def eI (c:Int):Bool:=decide (c=110\/c=115\/c=105\/c=73)
theorem eN (hc:eI c=true) (h:t.V ((false,c)::cs)):∃ y n,t=.cons y .nil n/\n.V cs/\(y.op=3\/y.op=1):=by
 cases t with
 |nil=>exact h.elim
 |cons x k n=>
  obtain⟨⟨h1,_,h2⟩,h3,h4⟩:=h
  have hop:x.op=3\/x.op=1:=by
   grind [eI,bH]
  have hk:(av x.op x.kids).1=[]:=by rcases hop with e|e<;>rw[e]<;>rfl
  rw[hk] at h3;have:=iE h3
  grind
theorem jY (h:t.V ((true,c)::cs)):∃ y bl n,t=.cons y bl n/\n.V cs/\y.op=4/\bl.V (List.replicate bl.cnt (false,c)):=by
 cases t with
 |nil=>exact h.elim
 |cons x k n=>exact⟨x,k,n,rfl,h.2.2,h.1.1,h.2.1⟩
theorem iD {p:List Nd} {c':Int}:∀ (ls:List Int) (t:Fo) (i:Nat),(ls.all eI)=true->t.V (ls.map (λc=>(false,c))++[(true,c')])->t.At p i->
 ∃ bl:Fo,bl.V (List.replicate bl.cnt (false,c'))/\bl.At p (i+ls.length+1)/\t.size=ls.length+1+bl.size/\t.cnt=ls.length+1/\(t.starts i).getD ls.length 0=i+ls.length/\∀ sc s,bn true t i sc s=bn false bl (i+ls.length+1) sc s
 |[],t,i,_,h,ha=>by
  obtain⟨y,bl,n,rfl,h1,h2,h3⟩:=jY h;have:=iE h1;subst this;refine⟨bl,h3,ha.2.2.1,by simp only[Fo.size,Z0e];omega,rfl,rfl,λsc s=>?_⟩;simp only[bn,h2,if_true];rfl
 |c::ls,t,i,hl,h,ha=>by
  simp only[Z1b,Z07] at hl;obtain⟨y,n,rfl,h1,h2⟩:=eN hl.1 h;obtain⟨bl,g1,g2,g3,g4,g5,g6⟩:=iD ls n (i+1) hl.2 h1 (by simpa [Fo.size] using ha.2.2.2)
  grind [Fo.size,Fo.cnt,Fo.starts,bn]
theorem Fl {p:List Nd} {x:Nd} {k n:Fo} {i:Nat} (ha:(Fo.cons x k n).At p i) (hv:(Fo.cons x k n).V ((false,c)::cs)) (hb:gw x.op=true):
 ∃ (m:Nat) (c':Int) (bl:Fo),m<=4/\(c'=68\/c'=70)/\bl.V (List.replicate bl.cnt (false,c'))/\bl.At p (i+1+m+1)/\k.size=m+1+bl.size/\k.cnt=m+1/\(k.starts (i+1)).getD m 0=i+1+m/\∀ sc s,bn true k (i+1) sc s=bn false bl (i+1+m+1) sc s:=by
 obtain⟨_,hk,_⟩:=hv;unfold gw at hb;simp only[decide_eq_true_eq] at hb
 rcases hb with e|e|e|e|e<;>rw[e] at hk
 ·obtain⟨bl,h⟩:=iD [110] k (i+1) rfl hk ha.2.2.1
  grind
 ·obtain⟨bl,h⟩:=iD [115] k (i+1) rfl hk ha.2.2.1
  grind
 ·obtain⟨bl,h⟩:=iD [115,105,105] k (i+1) rfl hk ha.2.2.1
  grind
 ·obtain⟨bl,h⟩:=iD [110,105,105] k (i+1) rfl hk ha.2.2.1
  grind
 ·obtain⟨bl,h⟩:=iD [110,110,105,105] k (i+1) rfl hk ha.2.2.1
  grind
theorem l9 {op:Int} (hc:c=68\/c=70) (h:bH c op=true):op=10\/op=11\/op=12\/op=13\/op=14\/op=15\/op=16\/op=17\/op=18\/op=19\/op=20\/op=21:=by
 grind [dy,bH]
theorem nc {p:List Nd} {x:Nd} {k n:Fo} {i:Nat} (hc:c=68\/c=70) (ha:(Fo.cons x k n).At p i) (hv:(Fo.cons x k n).V ((false,c)::cs)):i+1<p.length/\aw k=(ai (p.getD (i+1) dN).str).1:=by
 obtain⟨⟨hacc,_⟩,hk,_⟩:=hv
 have key:∃ sl r,dB (av x.op x.kids).1=sl::r:=by
  rcases l9 hc hacc with e|e|e|e|e|e|e|e|e|e|e|e<;>rw[e]<;>exact⟨_,_,rfl⟩
 obtain⟨sl,r,e⟩:=key;rw[e] at hk;obtain⟨y,ky,n',rfl,_⟩:=uK hk;have h1:=ha.2.2.1;exact⟨At.lt h1,by rw[At.get h1];rfl⟩
theorem kX {b r:Pth} (h:(ax b r).2=true):(ax b r).1.root=true:=by
 grind [ax]
end
abbrev nU (z:Int):V:=.s (.int .u64 z)
def jf (sp base len:Int):Bool:=decide (4<=sp\/sp=2\/len=0\/1048576<len\/9223372036854775808<base)||decide (sp=3/\256<base+len)
def jW (w u:Int):Bool:=if w=1\/w=2\/w=4\/w=8 then decide (2<u) else true
theorem aU {z:Int} (h1:0<=z) (h2:z<18446744073709551616):IntKind.u64.wrap z=z:=by
 grind [IntKind.wrap,IntKind.bits,IntKind.signed]
theorem od (w u:Int):FQ 175 [nU w,nU u] 0 [] (bV (jW w u)) 0 []:=by
 refine wW Tryz.func175 ?_
 repeat'(first|refine y1 ?_|refine y2 ?_ ?_|refine y4 λh=>?_|refine cL (.inl rfl) rfl ?_|refine y3 ?_|exact y5|fail)
 all_goals (unfold jW;first|(rw[if_pos aa];simp;omega)|(rw[if_neg aa]))
theorem xg (sp base len:Int) (h0:0<=base) (h1:0<=len):FQ 174 [nU sp,nU base,nU len] 0 [] (bV (jf sp base len)) 0 []:=by
 refine wW Tryz.func174 ?_
 repeat'(first|refine y1 ?_|refine y2 ?_ ?_|refine y4 λh=>?_|refine cL (.inl rfl) rfl ?_|refine y3 ?_|exact y5|fail)
 all_goals (unfold jf;simp;omega)
def aj (p:List Nd) (i:Nat):Int:=(p.getD i dN).int
def li (p:List Nd):Prop:=∀ x∈p,0<=x.int
theorem ce {p:List Nd} (h:li p) (i:Nat):0<=(p.getD i dN).int:=by
 rw[Z00]
 cases e:p[i]? with
 |none=>simp[dN]
 |some x=>exact h x (Z4i e)
def xf (p:List Nd):Nat->Nat->Bool
 |_,0=>false
 |i,K+1=>decide (255<aj p i)||xf p (i+1) K
def aN (p:List Nd) (i:Nat):Bool:=
 if (p.getD i dN).op=12 then decide (5<aj p (i+2))||decide (65535<aj p (i+3))
 else if (p.getD i dN).op=14 then decide (7<aj p (i+2))||decide (1<aj p (i+3))||decide (15<aj p (i+4))
 else if (p.getD i dN).op=20 then decide (15<aj p (i+2))
 else if (p.getD i dN).op=15 then jf (aj p (i+2)) (aj p (i+3)) (aj p (i+4))
 else if (p.getD i dN).op=16 then jW (aj p (i+2)) (aj p (i+3))
 else if (p.getD i dN).op=17 then jW (aj p (i+3)) (aj p (i+4))
 else if (p.getD i dN).op=18 then decide (aj p (i+2)=0)||decide (256<aj p (i+2))
 else if (p.getD i dN).op=19 then decide (8388608<aj p (i+1))
 else if (p.getD i dN).op=50 then decide (255<aj p (i+1))||xf p (i+3) (p.getD (i+2) dN).kids.toNat
 else if (p.getD i dN).op=51 then decide (64<aj p (i+1))
 else if (p.getD i dN).op=41 then decide (65535<aj p (i+2))
 else false
def kN (p:List Nd) (i:Nat):Prop:=i<p.length/\(((p.getD i dN).op=14\/(p.getD i dN).op=15\/(p.getD i dN).op=17)->i+4<p.length)/\(((p.getD i dN).op=12\/(p.getD i dN).op=16)->i+3<p.length)/\
 (((p.getD i dN).op=20\/(p.getD i dN).op=18\/(p.getD i dN).op=50\/(p.getD i dN).op=41)->i+2<p.length)/\(((p.getD i dN).op=19\/(p.getD i dN).op=51)->i+1<p.length)/\
 ((p.getD i dN).op=50->∃ K:Nat,(p.getD (i+2) dN).kids=(K:Int)/\i+3+K<=p.length)
theorem uw {p:List Nd}:∀ {K i:Nat},(∀ j,j<K-> ¬255<aj p (i+j))->xf p i K=false
 |0,_,_=>rfl
 |K+1,i,h=>by
  simp only[xf];rw[decide_eq_false (show ¬255<aj p i from h 0 (Z1n _)),uw λj hj=>by grind];rfl
theorem qE {p:List Nd}:∀ {K i j:Nat},j<K->255<aj p (i+j)->xf p i K=true
 |K+1,i,0,_,h=>by grind [xf]
 |K+1,i,j+1,hj,h=>by
  simp only[xf];rw[qE (K:=K) (i:=i+1) (j:=j) aa ae,Z4m]
theorem DJ {p:List Nd} {i:Nat} (h:(p.getD i dN).op=50):aN p i=(decide (255<aj p (i+1))||xf p (i+3) (p.getD (i+2) dN).kids.toNat):=by
 unfold aN
 grind
theorem Al (p:List Nd) (hp:p.length<=2048) (hI:li p) (i:Nat) (hn:kN p i):FQ 116 [.s (.ptr (some (0,0))),nI i] 1 (GB p) (bV (aN p i)) 1 (GB p):=by
 obtain⟨g0,g4,g3,g2,g1,h2⟩:=hn;have hr:=xg (aj p (i+2)) (aj p (i+3)) (aj p (i+4)) (ce hI _) (ce hI _);have ha:=od (aj p (i+2)) (aj p (i+3));have hb:=od (aj p (i+3)) (aj p (i+4));unfold aj at hr ha hb;refine wW Tryz.func116 ?_;by_cases h50:(p.getD i dN).op=50
 ·obtain⟨K,hK,hle⟩:=h2 h50
  repeat'(first|refine y1 ?_|refine y2 ?_ ?_|refine y4 λh=>?_|refine⟨.inl rfl,_,[],bB (congrArg bV ?_),fY rfl ⟨rfl,trivial⟩ rfl rfl rfl rfl⟩|refine y3 ?_|exact y5|fail)
  ·grind [aN,aj]
  ·have hk:((i:Int)+3)+(p.getD (i+2) dN).kids=((i+3+K:Nat):Int):=ae
   have hK2:i+3+K-(i+3)=K:=aa;refine RegX.chunkN 12 rfl rfl ?_ (RegX.eqv 169 (congrArg nI hk) rfl ?_)
   all_goals
    repeat'(first|refine yA ?_|refine y2 ?_ ?_|exact y5|fail)
   ·rw[hk];exact aB aa aa
   refine cy (σ:=Nat) (λj=>[(172,nI j)]) (λj=>GB p) (λj=>j<=K/\∀ x,x<j-> ¬255<aj p (i+3+x)) (λj=>K-j) 0 rfl (λ_=>rfl) ⟨Z08 _,λx hx=>by omega⟩ aP ⟨rfl,trivial⟩ ?_;rintro j ⟨j1,j2⟩
   repeat'(first|refine y1 ?_|refine y2 ?_ ?_|refine y4 λh=>?_|refine⟨.inl rfl,_,[],bB (congrArg bV ?_),fY rfl ⟨rfl,trivial⟩ rfl rfl rfl rfl⟩|refine dz (j+1) ⟨?_,?_⟩ ?_ rfl aP ⟨rfl,trivial⟩ rfl rfl ac|refine y3 ?_|exact y5|fail)
   all_goals first
    |omega
    |(have q:j<i+3+K-(i+3):=Int.ofNat_lt.1 ae
      first
       |omega
       |(rw[DJ h50,hK,Z12,qE (j:=j) aa (by assumption),Z4m];done)
       |exact oW j2 (by assumption))
    |(have q: ¬j<i+3+K-(i+3):=λe=>absurd (Int.ofNat_lt.2 e) ae
      rw[DJ h50,hK,Z12,uw (λx hx=>j2 x aa),Z41];exact (decide_eq_false (by assumption)).symm)
 ·clear h2
  repeat'(first|refine y1 ?_|refine y2 ?_ ?_|refine y4 λh=>?_|refine an hr ?_|refine an ha ?_|refine an hb ?_|refine⟨.inl rfl,_,[],bB (congrArg bV ?_),fY rfl ⟨rfl,trivial⟩ rfl rfl rfl rfl⟩|refine y3 ?_|exact y5|fail)
  all_goals first
   |omega
   |(unfold aN aj
     repeat (first|rw[if_pos aa]|rw[if_neg aa])
     first
      |done
      |rfl
      |(refine Eq.symm ?_;simp only[Z1h,decide_eq_true_eq,Nat.add_eq] at* <;>omega)
      |(refine Eq.symm ?_;simp only[Z2y,decide_eq_false_iff_not,Nat.add_eq] at* <;>omega))
def ef (p:List Nd) (F:List (By×Nat)) (op:Int):List Pth->Int
 |[]=> -1
 |c::t=>match q_ F (aM c) with|some i=>if (p.getD i dN).op=op then (i:Int) else-1|none=>ef p F op t
theorem jx {p:List Nd} {F:List (By×Nat)} {op:Int} {c:Pth} {t:List Pth} {i:Nat} (h:q_ F (aM c)=some i):ef p F op (c::t)=if (p.getD i dN).op=op then (i:Int) else-1:=by simp only[ef,h]
theorem jy {p:List Nd} {F:List (By×Nat)} {op:Int} {c:Pth} {t:List Pth} (h:q_ F (aM c)=none):ef p F op (c::t)=ef p F op t:=by simp only[ef,h]
theorem tI:∀ {F:List (By×Nat)} {k:By} {i:Nat},q_ F k=some i->(k,i)∈F
 |x::t,k,i,h=>by
  simp only[q_] at h;split at h
  ·grind
  ·exact .tail _ (tI h)
theorem lc (bs:List By) (s0:By):∀ (k:Nat),∀ c∈cY bs s0 k,c.root=true
 |0,c,h=>by simp[cY] at h;rw[h]
 |k+1,c,h=>by
  unfold cY at h;split at h
  ·exact lc bs s0 k c h
  ·rcases Z0h.1 h with rfl|h
   ·rfl
   ·exact lc bs s0 k c h
theorem lb {b r:Pth}:∀ c∈aS b r,c.root=true:=by
 grind [aS,kX,lc]
theorem ny (b r:Pth):(aS b r).length<=b.segs.length+1:=by
 grind [aS,fW]
abbrev anR (p:List Nd) (F:List (By×Nat)):Hp:=[(0,some {cells:=[.frz (λk=>ndC (p.getD k dN)) 4 p.length,.unk,.unk,.map (some 1)],ty:=186,more:=true,ro:=true}),(1,some {cF F with ro:=true})]
theorem mK (p:List Nd) (hp:p.length<=2048) (F:List (By×Nat)) (hF:∀ x∈F,x.2<p.length) (sc nm:Pth) (hs:sc.segs.length<=1000000) (op:Int):
 FQ 177 [.s (.ptr (some (0,0))),hY sc,hY nm,nI op] 2 (anR p F) (nI (ef p F op (aS sc nm))) 2 (anR p F):=by
 have hcd:=ze sc nm;have hroot:= @lb sc nm;have hcl:=ny sc nm
 have hzr:∀ w,(zeroValue 3).run Tryz.prog w=.ok (.int .i64 0) w:=λw=>by rw[Tryz.zeroValue3]
 generalize aS sc nm=cs at*;refine wW Tryz.func177 ?_
 repeat'(first|refine yA ?_|refine y2 ?_ ?_|refine an hcd ?_|exact y5|fail)
 refine cy (σ:=Nat) (λj=>[(17,nI j)]) (λj=>anR p F) (λj=>j<=cs.length/\ef p F op (cs.drop j)=ef p F op cs) (λj=>cs.length-j) 0 rfl (λ_=>rfl) ⟨Z08 _,rfl⟩ aP ⟨rfl,rfl,trivial⟩ ?_;rintro j ⟨j1,j2⟩;by_cases hj:j<cs.length
 ·rw[Z0k hj] at j2
  have hg:cs.getD j z0=cs[j]:=ae;have hrt:(cs.getD j z0).root=true:=ae;have hf:=qh (cs.getD j z0) hrt;rw[<-hg] at j2
  cases hl:q_ F (aM (cs.getD j z0)) with
  |none=>
   rw[jy hl] at j2
   repeat'(first|refine y1 ?_|refine y2 ?_ ?_|refine y4 λh=>?_|refine an hf ?_|refine RegX.lkp none rfl rfl rfl rfl rfl hzr hl rfl ?_|refine y3 ?_|exact y5|fail)
   exact dz (j+1) ⟨hj,j2⟩ aa rfl aP ⟨rfl,rfl,trivial⟩ rfl rfl ac
  |some i=>
   rw[jx hl] at j2;have hi:i<p.length:=hF _ (tI hl)
   repeat'(first|refine y1 ?_|refine y2 ?_ ?_|refine y4 λh=>?_|refine an hf ?_|refine RegX.lkp (some i) rfl rfl rfl rfl rfl hzr hl rfl ?_|refine y3 ?_|exact y5|fail)
   all_goals try exact hi
   ·rw[<-j2,if_pos ‹_›]
    exact bK
   ·rw[<-j2,if_neg ‹_›]
    exact bK
 ·have hd:cs.drop j=[]:=ae
  rw[hd] at j2;simp only[ef] at j2;rw[<-j2]
  repeat'(first|refine yA ?_|refine y2 ?_ ?_|refine y4 λh=>?_|exact y5|fail)
  all_goals exact bK
def eA (i:Nat) (r:Bool) (G:List (Nat×Nat)):List (Nat×Nat):=if r then G else G++[(i,10)]
def cx (op:Int) (i:Nat) (lp:Bool) (G:List (Nat×Nat)):List (Nat×Nat):=if (op=34\/op=35)/\lp=false then G++[(i,8)] else G
def aT:Bool->Fo->Nat->Bool->Bool->List (Nat×Nat)->List (Nat×Nat)
 |_,.nil,_,_,_,G=>G
 |true,.cons x k n,i,lp,r,G=>aT true n (i+1+k.size) lp r (if x.op=4 then aT false k (i+1) lp true G else G)
 |false,.cons x k n,i,lp,r,G=>
  aT false n (i+1+k.size) lp (r&& !decide (x.op=33\/x.op=34\/x.op=35))
   (if x.op=31 then aT true k (i+1) lp true (cx x.op i lp (eA i r G)) else if x.op=32 then aT true k (i+1) true true (cx x.op i lp (eA i r G)) else cx x.op i lp (eA i r G))
theorem zU (op:Int) (i:Nat) (lp r:Bool) (G:List (Nat×Nat)):(cx op i lp (eA i r G)).length<=G.length+2:=by
 grind [cx,eA]
theorem C4 (i:Nat) (r:Bool) (G:List (Nat×Nat)):(eA i r G).length<=G.length+1:=by
 unfold eA
 grind
theorem fp:∀ (m:Bool) (t:Fo) (i:Nat) (lp r:Bool) (G:List (Nat×Nat)),(aT m t i lp r G).length<=G.length+2*t.size
 |true,.nil,_,_,_,_=>Z02 _
 |false,.nil,_,_,_,_=>Z02 _
 |true,.cons x k n,i,lp,r,G=>by
  simp only[aT,Fo.size];have h1:=fp true n (i+1+k.size) lp r (if x.op=4 then aT false k (i+1) lp true G else G);split at h1
  ·have h2:=fp false k (i+1) lp true G
   grind
  all_goals grind
 |false,.cons x k n,i,lp,r,G=>by
  simp only[aT,Fo.size];have h0:=zU x.op i lp r G;generalize cx x.op i lp (eA i r G)=G2 at*;have h1:=fp true k (i+1) lp true G2;have h2:=fp true k (i+1) true true G2;have h3:=fp false n (i+1+k.size) lp (r&& !decide (x.op=33\/x.op=34\/x.op=35)) (if x.op=31 then aT true k (i+1) lp true G2 else if x.op=32 then aT true k (i+1) true true G2 else G2)
  grind
theorem H1 {op:Int} (h:bH 101 op=true): ¬op=4:=by
 intro e;subst e;revert h;decide
theorem va {x:Nd} {k n:Fo} {cs:List (Bool×Int)} (hv:(Fo.cons x k n).V ((false,83)::cs)) (ho:x.op=31\/x.op=32):
 ∃ e ke rest,k=.cons e ke rest/\ ¬e.op=4/\rest.V (List.replicate rest.cnt (true,83))/\1<=rest.cnt/\(x.op=32->rest.cnt=1):=by
 obtain⟨_,hk,_⟩:=hv
 have key:∀ m:Nat,dB (av x.op x.kids).1=(false,101)::List.replicate (m+1) (true,83)->(x.op=32->m=0)->∃ e ke rest,k=.cons e ke rest/\ ¬e.op=4/\rest.V (List.replicate rest.cnt (true,83))/\1<=rest.cnt/\(x.op=32->rest.cnt=1):=by
  intro m hs h0;rw[hs] at hk
  cases k with
  |nil=>exact hk.elim
  |cons e ke rest=>
   have hc:=Fo.V_cnt hk.2.2;rw[Z36] at hc;exact⟨e,ke,rest,rfl,H1 hk.1.1,by rw[hc];exact hk.2.2,aa,λh=>by grind⟩
 rcases ho with ho|ho
 ·by_cases h3:x.kids=3
  ·refine key 1 ?_ (λh=>by omega)
   rw[ho,h3];rfl
  ·refine key 0 ?_ (λ_=>rfl)
   rw[ho];unfold av;rw[if_neg ac,if_neg ac,if_neg ae];rfl
 ·refine key 0 ?_ (λ_=>rfl)
  rw[ho];rfl
abbrev qU (S:List Pth):Bl:={cells:=S.flatMap cH,ty:=99,sym:=true,flat:=true}
theorem vh:∀ {T:List Pth} {i:Nat} {q:Pth},i<T.length->bW (T.flatMap cH) (i*3) (cH q)=(T.set i q).flatMap cH
 |[],i,q,h=>by grind
 |p::T,0,q,_=>by
  simp only[Z0g,Z3k,Z24];have:=lz (cH q) [] (cH p++T.flatMap cH) (by simp[cH])
  simpa [cH] using this
 |p::T,i+1,q,h=>by
  simp only[Z0g,Z2j];have ih:=vh (T:=T) (i:=i) (q:=q) ae
  grind [cH,bW]
abbrev FZ (p:List Nd) (s:St):Hp:=[(0,some (fJ p 3 s.D.length 6 s.G.length)),(1,some (qU s.S)),(3,l_ 3 s.D),(5,some (cF s.F)),(6,bM 6 s.G)]
abbrev KY (p:List Nd) (s:St):Hp:=[(0,some (fJ p 8 s.D.length 10 s.G.length)),(1,some (qU s.S)),(3,none),(6,none),(5,some (cF s.F)),(8,l_ 8 s.D),(10,bM 10 s.G)]
def Gk (p:List Nd) (N:Nat):Prop:=∀ (x:Nd) (k:Fo) (c:Int) (i:Nat) (sc:Pth) (s:St),k.size<N->(c=68\/c=70)->(Fo.cons x k .nil).At p i->(Fo.cons x k .nil).V [(false,c)]->s.S.length=p.length->s.D.length<=i->s.G.length<=i->
 FQ 173 [.s (.ptr (some (0,0))),nI i,hY sc] 8 (FZ p s) (nI (i+1+k.size:Nat)) 12 (KY p (bn false (.cons x k .nil) i sc s))
theorem KK (p:List Nd) (hp:p.length<=2048) (hw:oh p) (N:Nat) (ih:Gk p N):Gk p (N+1):=by
 intro x k c i sc s hN hc ha hv hS hD hG;have hi:=At.lt ha;have hx:=At.get ha;obtain⟨hi1,hnm⟩:=nc hc ha hv;have hpa:=lH p hw (i+1) hi1;have hend:=E7 p hp i (i+1+k.size) (At.ends1 ha);have hse:(Tryz.prog.types[99]).size=3:=aK
 have hcat:bU 0 (bQ i (Tryz.prog.types[99]).size)=i*3:=by rw[hse,ak,ao,Z0c]
 have hjn:=Ez sc (aw k);rw[hnm] at hjn;generalize hhd:cN x (aw k) i sc s=hd;obtain⟨inner,s1⟩:=hd
 have hfin:bn false (.cons x k .nil) i sc s=if gw x.op then bn true k (i+1) inner s1 else s1:=by simp only[bn,hhd]
 have hlen:=rT x (aw k) i sc s;rw[hhd] at hlen;simp only at hlen;rw[hfin];unfold cN at hhd;rw[hnm] at hhd;rw[<-hx] at hhd;have hjr:= @kX sc (ai (p.getD (i+1) dN).str).1;generalize ax sc (ai (p.getD (i+1) dN).str).1=jj at*;obtain⟨jp,jok⟩:=jj;refine wW Tryz.func173 ?_
 repeat'(first|refine yA ?_|refine y2 ?_ ?_|exact y5|fail)
 ·refine RegX.sto [.cells ((s.S.set i sc).flatMap cH)] rfl rfl ⟨?_,?_⟩ rfl ?_
  ·grind [ek]
  ·rw[hcat];exact (vh aa).symm
  repeat'(first|refine Ex.cutB 0 107 14 [(0,.s (.ptr (some (0,0)))),(1,nI i),(7,.s (.ptr (some (9,0)))),(8,nI (p.getD i dN).op)] [(0,some (fJ p 10 s1.D.length 12 s1.G.length)),(1,some (qU s1.S)),(5,some (cF s1.F)),(9,some {cells:=cH inner,ty:=99}),(10,l_ 10 s1.D),(12,bM 12 s1.G)] rfl ?_ ?_|refine y1 ?_|refine y2 ?_ ?_|refine y4 λh=>?_|refine y3 ?_|exact y5|fail)
  ·cases jok
   ·rw[if_pos ‹(p.getD i dN).op=10›,if_neg aq] at hhd
    cases hhd
    repeat'(first|refine yA ?_|refine y2 ?_ ?_|(refine wX ?_;refine ji [0] 0 hpa ?_ (hle:=by exact⟨ah _,bB (congrArg nI (by push_cast;rfl)),trivial⟩))|refine an hjn ?_|(refine wX ?_;refine kF [0,1,2,3,4,5,6,7] (dh p s.D.length s.G i 2 aa) rfl (bS rfl rfl rfl) rfl rfl rfl aP pi rfl rfl (wr:=[(0,some (fJ p 3 s.D.length 11 (s.G.length+1))),(6,none),(11,bM 11 (s.G++[(i,2)]))]) (by show [_,_,_]=_;rw[az];rfl) ?_)|exact y5|fail)
    rw[show (St.rep (s.sc i sc) i 2).G.length=s.G.length+1 from by simp[St.rep,St.sc]];refine fH [0,1,2,3,4,5,6,7,8,9,3,4,11,12] rfl rfl ⟨ah _,ah _,ah _,ah _,trivial⟩ ⟨rfl,rfl,rfl,rfl,bh rfl (bh rfl trivial)⟩ ?_
    (unfold l_ bM;generalize List.flatMap mw _=cd;generalize List.flatMap cv _=cg;cases cd<;>cases cg<;>rfl)
   ·rw[if_pos ‹(p.getD i dN).op=10›,if_pos rfl] at hhd
    cases hhd
    repeat'(first|refine yA ?_|refine y2 ?_ ?_|(refine wX ?_;refine ji [0] 0 hpa ?_ (hle:=by exact⟨ah _,bB (congrArg nI (by push_cast;rfl)),trivial⟩))|refine an hjn ?_|exact y5|fail)
    refine fH [0,1,2,3,4,5,6,7,8,9,3,4,6,7] rfl rfl ⟨ah _,ah _,ah _,ah _,trivial⟩ ⟨rfl,rfl,rfl,rfl,bh rfl (bh rfl trivial)⟩ ?_
    (unfold l_ bM;generalize List.flatMap mw _=cd;generalize List.flatMap cv _=cg;cases cd<;>cases cg<;>rfl)
  ·rw[if_neg aa,if_pos aa] at hhd
   cases hhd;refine fH [0,1,2,3,4,5,6,7,8,9,3,4,6,7] rfl rfl ⟨ah _,ah _,ah _,ah _,trivial⟩ ⟨rfl,rfl,rfl,rfl,bh rfl (bh rfl trivial)⟩ ?_
   (unfold l_ bM;generalize List.flatMap mw _=cd;generalize List.flatMap cv _=cg;cases cd<;>cases cg<;>rfl)
  ·rw[if_neg aa,if_pos aa] at hhd
   cases hhd;refine fH [0,1,2,3,4,5,6,7,8,9,3,4,6,7] rfl rfl ⟨ah _,ah _,ah _,ah _,trivial⟩ ⟨rfl,rfl,rfl,rfl,bh rfl (bh rfl trivial)⟩ ?_
   (unfold l_ bM;generalize List.flatMap mw _=cd;generalize List.flatMap cv _=cg;cases cd<;>cases cg<;>rfl)
  ·rw[if_neg aa,if_pos aa] at hhd
   cases hhd;refine fH [0,1,2,3,4,5,6,7,8,9,3,4,6,7] rfl rfl ⟨ah _,ah _,ah _,ah _,trivial⟩ ⟨rfl,rfl,rfl,rfl,bh rfl (bh rfl trivial)⟩ ?_
   (unfold l_ bM;generalize List.flatMap mw _=cd;generalize List.flatMap cv _=cg;cases cd<;>cases cg<;>rfl)
  ·cases jok
   ·rw[if_neg aa,if_neg aa,if_neg aq] at hhd
    cases hhd
    repeat'(first|refine yA ?_|refine y2 ?_ ?_|(refine wX ?_;refine ji [0] 0 hpa ?_ (hle:=by exact⟨ah _,bB (congrArg nI (by push_cast;rfl)),trivial⟩))|refine an hjn ?_|(refine wX ?_;refine kF [0,1,2,3,4,5,6,7] (dh p s.D.length s.G i 2 aa) rfl (bS rfl rfl rfl) rfl rfl rfl aP pi rfl rfl (wr:=[(0,some (fJ p 3 s.D.length 11 (s.G.length+1))),(6,none),(11,bM 11 (s.G++[(i,2)]))]) (by show [_,_,_]=_;rw[az];rfl) ?_)|exact y5|fail)
    rw[show (St.rep (s.sc i sc) i 2).G.length=s.G.length+1 from by simp[St.rep,St.sc]];refine fH [0,1,2,3,4,5,6,7,8,9,3,4,11,12] rfl rfl ⟨ah _,ah _,ah _,ah _,trivial⟩ ⟨rfl,rfl,rfl,rfl,bh rfl (bh rfl trivial)⟩ ?_
    (unfold l_ bM;generalize List.flatMap mw _=cd;generalize List.flatMap cv _=cg;cases cd<;>cases cg<;>rfl)
   ·rw[if_neg aa,if_neg aa,if_pos rfl] at hhd
    have hf:=qh jp (hjr rfl)
    repeat'(first|refine yA ?_|refine y2 ?_ ?_|refine y4 λh=>?_|(refine wX ?_;refine ji [0] 0 hpa ?_ (hle:=by exact⟨ah _,bB (congrArg nI (by push_cast;rfl)),trivial⟩))|refine an hjn ?_|refine an hf ?_|(refine wX ?_;refine kF [0,1,2,3,4,5,6,7] (Cg p s.D s.F s.G i (aM jp) hi aa aa) rfl (bS (t:=[(5,some (cF s.F)),(6,bM 6 s.G)]) rfl rfl (bS rfl rfl rfl)) rfl rfl rfl aP ⟨⟨rfl,_,rfl,rfl,λh=>h⟩,mp rfl rfl ⟨⟨rfl,_,rfl,rfl,λh=>h⟩,mp rfl rfl trivial⟩⟩ rfl rfl (wr:=[(0,some (fJ p 11 (s.D.length+1) 13 (nk s.F s.G (aM jp) i).length)),(3,none),(6,none),(5,some (cF (rm s.F (aM jp) i))),(11,l_ 11 (s.D++[⟨aM jp,(p.getD i dN).op,i⟩])),(13,bM 13 (nk s.F s.G (aM jp) i))]) (by show [_,_,_,_,_,_]=_;rw[az,az];rfl) ?_)|exact y5|fail)
    all_goals
     first
      |rw[if_pos aa] at hhd
      |rw[if_neg aa] at hhd
     cases hhd;rw[show (St.dec (s.sc i sc) i (aM jp) (p.getD i dN).op).D.length=s.D.length+1 from by simp[St.dec,St.sc]];refine fH [0,1,2,3,4,5,6,7,8,9,11,12,13,14] rfl rfl ⟨ah _,ah _,ah _,ah _,trivial⟩ ⟨rfl,rfl,rfl,rfl,bh rfl (bh rfl trivial)⟩ ?_
     (unfold l_ bM;generalize List.flatMap mw _=cd;generalize List.flatMap cv _=cg;cases cd<;>cases cg<;>rfl)
  ·have hbl:gw x.op=decide ((p.getD i dN).op=10\/(p.getD i dN).op=11\/(p.getD i dN).op=12\/(p.getD i dN).op=16\/(p.getD i dN).op=17):=by rw[hx];rfl
   cases hb:gw x.op
   ·rw[hb] at hbl
    have hbl:=of_decide_eq_false hbl.symm;simp only[Z0l,if_false]
    repeat'(first|refine Ex.cutS 21 107 14 [(0,.s (.ptr (some (0,0)))),(1,nI i),(7,.s (.ptr (some (9,0)))),(13,nI (i+1+k.size:Nat)),(83,bV false)] [(0,some (fJ p 10 s1.D.length 12 s1.G.length)),(1,some (qU s1.S)),(5,some (cF s1.F)),(9,some {cells:=cH inner,ty:=99}),(10,l_ 10 s1.D),(12,bM 12 s1.G)] rfl ?_ ?_|refine y1 ?_|refine y2 ?_ ?_|refine y4 λh=>?_|refine wX (ji [0] 0 hend ?_)|refine y3 ?_|exact y5|fail)
    ·refine fH [0,1,2,3,4,5,6,7,8,9,10,11,12,13] rfl rfl ⟨ah _,ah _,ah _,ah _,ah _,trivial⟩ ⟨rfl,rfl,rfl,rfl,bh rfl (bh rfl trivial)⟩ ?_
     (unfold l_ bM;generalize List.flatMap mw _=cd;generalize List.flatMap cv _=cg;cases cd<;>cases cg<;>rfl)
    ·refine⟨.inl rfl,_,[10,11,12,13],ah _,fY rfl ?_ rfl ?_ rfl rfl⟩
     ·exact⟨rfl,rfl,rfl,bh rfl (bh rfl trivial)⟩
     ·(unfold KY l_ bM;generalize List.flatMap mw _=cd;generalize List.flatMap cv _=cg;cases cd<;>cases cg<;>rfl)
   ·rw[hb] at hbl
    have hbl:=of_decide_eq_true hbl.symm;simp only[if_true];obtain⟨m,c',bl,hm4,hc',hblV,hblA,hks,hkc,hst,hdec⟩:=Fl ha hv hb;have hcs:=bE k (i+1);have hchn:=At.chain ha.2.2.1
    have hkid:(p.getD i dN).kids=((k.starts (i+1)).length:Nat):=by rw[hx,hcs];exact ha.2.1
    rw[hkc] at hcs;generalize k.starts (i+1)=cs at*;have hsz:=At.size_le (Z1k (At.lt ha)) ha;simp only[Fo.size] at hsz;have hch:=gx p hp i (i+1+k.size) hi cs hkid hchn aa;have hk1:(cs.length:Int)-1=(m:Nat):=aa
    repeat'(first|refine Ex.cutS 21 107 14 [(0,.s (.ptr (some (0,0)))),(1,nI i),(7,.s (.ptr (some (9,0)))),(13,nI (i+1+k.size:Nat)),(83,bV true)] [(0,some (fJ p 10 s1.D.length 12 s1.G.length)),(1,some (qU s1.S)),(5,some (cF s1.F)),(9,some {cells:=cH inner,ty:=99}),(10,l_ 10 s1.D),(12,bM 12 s1.G)] rfl ?_ ?_|refine y1 ?_|refine y2 ?_ ?_|refine y4 λh=>?_|refine wX (ji [0] 0 hend ?_)|refine wX (ji [0] 0 hch ?_)|refine y3 ?_|exact y5|fail)
    all_goals try (refine fH [0,1,2,3,4,5,6,7,8,9,10,11,12,13] rfl rfl ⟨ah _,ah _,ah _,ah _,ah _,trivial⟩ ⟨rfl,rfl,rfl,rfl,bh rfl (bh rfl trivial)⟩ ?_;(unfold l_ bM;generalize List.flatMap mw _=cd;generalize List.flatMap cv _=cg;cases cd<;>cases cg<;>rfl))
    refine RegX.chunkN 4 rfl rfl ?_ (RegX.eqv 95 (congrArg nI hk1) rfl ?_)
    all_goals
     repeat'(first|refine yA ?_|refine y2 ?_ ?_|exact y5|fail)
    refine cy (σ:=Fo×Nat×St) (λq=>[(15,nI q.2.1)]) (λq=>[(0,some (fJ p 10 q.2.2.D.length 12 q.2.2.G.length)),(1,some (qU q.2.2.S)),(5,some (cF q.2.2.F)),(9,some {cells:=cH inner,ty:=99}),(10,l_ 10 q.2.2.D),(12,bM 12 q.2.2.G)])
     (λq=>q.1.At p q.2.1/\q.1.V (List.replicate q.1.cnt (false,c'))/\(i+2<=q.2.1/\q.2.1+q.1.size=i+1+k.size)/\q.2.2.S.length=p.length/\q.2.2.D.length<=q.2.1/\q.2.2.G.length<=q.2.1/\bn false q.1 q.2.1 inner q.2.2=bn true k (i+1) inner s1) (λq=>q.1.size) (bl,i+1+m+1,s1) rfl (λ_=>rfl) ?_ ?_ ?_ ?_
    ·grind
    ·exact⟨bB (congrArg nI ae),trivial⟩
    ·exact⟨rfl,rfl,rfl,rfl,fF rfl (fF rfl trivial)⟩
    ·rintro⟨t,j,st⟩ ⟨t1,t2,⟨t0,t3⟩,t4,t5,t6,t7⟩
     simp only at t0 t1 t2 t3 t4 t5 t6 t7 |-
     cases t with
     |nil=>
      simp only[Fo.size,Z0p] at t3;subst t3;simp only[bn] at t7;rw[<-t7]
      repeat'(first|refine yA ?_|refine y2 ?_ ?_|refine y4 λh=>?_|exact y5|fail)
      refine⟨.inl rfl,_,[10,11,12,13],ah _,fY rfl ?_ rfl ?_ rfl rfl⟩
      ·exact⟨rfl,rfl,rfl,bh rfl (bh rfl trivial)⟩
      ·(unfold KY l_ bM;generalize List.flatMap mw _=cd;generalize List.flatMap cv _=cg;cases cd<;>cases cg<;>rfl)
     |cons x' k' n'=>
      simp only[Fo.size] at t3
      have hr:bn false (.cons x' k' n') j inner st=bn false n' (j+1+k'.size) inner (bn false (.cons x' k' .nil) j inner st):=by simp only[bn]
      rw[hr] at t7;have hl:=dt false (.cons x' k' .nil) j inner st;simp only[Fo.size,Z0p] at hl;have hrec:=ih x' k' c' j inner st aa hc' ⟨t1.1,t1.2.1,t1.2.2.1,trivial⟩ ⟨t2.1,t2.2.1,trivial⟩ t4 t5 t6;generalize bn false (.cons x' k' .nil) j inner st=st' at*
      have k2:fg 8 (FZ p st)=true:=by (unfold FZ l_ bM;generalize List.flatMap mw _=cd;generalize List.flatMap cv _=cg;cases cd<;>cases cg<;>rfl)
      repeat'(first|refine yA ?_|refine y2 ?_ ?_|refine y4 λh=>?_|(refine wX ?_;refine kF [0,1,2,10,11,5,12,13] hrec rfl k2 rfl rfl rfl aP ⟨⟨rfl,_,rfl,rfl,λh=>h⟩,⟨rfl,_,rfl,rfl,λh=>h⟩,mp rfl rfl ⟨⟨rfl,_,rfl,rfl,λh=>h⟩,mp rfl rfl trivial⟩⟩ rfl rfl (wr:=[(0,some (fJ p 14 st'.D.length 16 st'.G.length)),(1,some (qU st'.S)),(10,none),(12,none),(5,some (cF st'.F)),(14,l_ 14 st'.D),(16,bM 16 st'.G)]) (by show [_,_,_,_,_,_,_]=_;rw[az,az];rfl) ?_)|exact y5|fail)
      refine fX (n',j+1+k'.size,st') ⟨t1.2.2.2,t2.2.2,⟨ae,ae⟩,ae,ae,ae,t7⟩ (by simp only[Fo.size];omega) [0,1,2,3,4,5,6,7,8,9,14,15,16,17] rfl ?_ ?_ ?_
      ·repeat'(first|exact ah _|exact dd _|exact Z0o|refine⟨?_,?_⟩)
      ·exact⟨rfl,rfl,rfl,rfl,bh rfl (bh rfl trivial)⟩
      ·(unfold l_ bM;generalize List.flatMap mw _=cd;generalize List.flatMap cv _=cg;cases cd<;>cases cg<;>rfl)
theorem wY (p:List Nd) (hp:p.length<=2048) (hw:oh p):∀ N,Gk p N
 |0=>λx k c i sc s h=>absurd h (Z1m _)
 |N+1=>KK p hp hw N (wY p hp hw N)
theorem SubF.cons {i:Nat} {bl bl':Bl} {L L':Hp} (hr:bl'.ro=bl.ro) (hb:∀ φ w b,BlAt φ w b bl->BlAt φ w b bl') (h:SubF L' L):SubF ((i,some bl')::L') ((i,some bl)::L):=by
 intro j c hj;rw[aY] at hj |-;split at hj
 ·grind
 ·rw[if_neg ‹_›];exact h j c hj
theorem Hf (n:Nat):All2 SLe (rep n [S.bool false,S.int IntKind.i64 0,S.slc none 0 (some 0)]) ((List.replicate n z0).flatMap cH):=by
 refine All2.of_get (by rw[gm,ek];simp) λi a b ha hb=>?_
 have hi:i<n*3:=by
  grind [gm]
 rw[te _ _ _ hi] at ha;have hk:i/3<(List.replicate n z0).length:=ae;have hg:(List.replicate n z0).getD (i/3) z0=z0:=ae
 have hx:∀ x,(cH z0)[i%3]? =some x->((List.replicate n z0).flatMap cH)[i]? =some x:=λx hx=>by
  have:=(kh (l:=List.replicate n z0) (k:=i/3) (j:=i%3) (x:=x) hk ae).1
  grind
 have hm:i%3<3:=Nat.mod_lt _ ac;have ha:[S.bool false,S.int IntKind.i64 0,S.slc none 0 (some 0)][i%3]? =some a:=ha;generalize i%3=m at*
 match m,hm with
 |0,_=>rw[hx _ rfl] at hb;cases hb;cases ha;exact SLe.refl _
 |1,_=>rw[hx _ rfl] at hb;cases hb;cases ha;exact SLe.refl _
 |2,_=>rw[hx _ rfl] at hb;cases hb;cases ha;exact SLe.nil
def xE (p:List Nd):St:=⟨List.replicate p.length z0,[],[],[]⟩
def anS (p:List Nd) (t:Fo):St:=bn false t 0 ⟨true,0,[]⟩ (xE p)
theorem Ct (p:List Nd) (hp:p.length<=2048) (hw:oh p) (t:Fo) (ha:t.At p 0) (hv:t.V (List.replicate t.cnt (false,68))) (hs:t.size=p.length):
 FQ 115 [al p] 0 [] (.s (.ptr (some (0,0)))) 8 (FZ p (anS p t)):=by
 have hsz:(Tryz.prog.types[99]).size=3:=aK;have hby:(Tryz.prog.types[99]).bytes=40:=aK;generalize hU:anS p t=U;refine wW Tryz.func115 ?_
 repeat'(first|refine yA ?_|refine y2 ?_ ?_|exact y5|fail)
 refine mo [.idx p.length,.idx p.length] rfl rfl ?_ ?_
 ·grind
 repeat'(first|refine y1 ?_|refine y2 ?_ ?_|refine RegX.mkm rfl ?_|refine y3 ?_|exact y5|fail)
 refine Ex.subF (L':=[(0,some (qU (List.replicate p.length z0))),(1,some (cF [])),(2,some {cells:=[.frz (λk=>ndC (p.getD k dN)) 4 p.length,.slc (some (0,0)) p.length (some p.length),.row 3 4 0,.map (some 1),.row 5 6 0],ty:=186})]) ?_ ?_
 ·refine SubF.cons rfl ?_ (SubF.cons rfl ?_ (SubF.cons rfl ?_ (SubF.refl _)))
  ·exact λφ w b h=>BlAt.cells (Hf p.length) h
  ·grind
  ·exact λφ w b h=>BlAt.cells (bl:={cells:=[.frz (λk=>ndC (p.getD k dN)) 4 p.length,.slc (some (0,0)) p.length (some p.length),.slc none 0 (some 0),.map (some 1),.slc none 0 (some 0)],ty:=186}) (cs:=[.frz (λk=>ndC (p.getD k dN)) 4 p.length,.slc (some (0,0)) p.length (some p.length),.row 3 4 0,.map (some 1),.row 5 6 0]) ⟨SLe.refl _,SLe.refl _,SLe.nilrow,SLe.refl _,SLe.nilrow,trivial⟩ h
 refine my [2,0,7,3,4,1,5,6] 21 [(0,al p),(3,.s (.ptr (some (0,0)))),(4,nI 0)] (FZ p (xE p)) rfl rfl ⟨ah _,ah _,ah _,trivial⟩ ⟨rfl,rfl,rfl,trivial⟩ rfl ?_
 refine cy (σ:=Fo×Nat×St) (λq=>[(4,nI q.2.1)]) (λq=>FZ p q.2.2)
  (λq=>q.1.At p q.2.1/\q.1.V (List.replicate q.1.cnt (false,68))/\q.2.1+q.1.size=p.length/\q.2.2.S.length=p.length/\q.2.2.D.length<=q.2.1/\q.2.2.G.length<=q.2.1/\bn false q.1 q.2.1 ⟨true,0,[]⟩ q.2.2=U) (λq=>q.1.size) (t,0,xE p) rfl (λ_=>rfl) ?_ ?_ ?_ ?_
 ·exact⟨ha,hv,ae,by simp[xE],Z02 _,Z02 _,hU⟩
 ·exact aP
 ·exact⟨rfl,rfl,rfl,trivial⟩
 ·rintro⟨t,j,s⟩ ⟨t1,t2,t3,t4,t5,t6,t7⟩
  simp only at t1 t2 t3 t4 t5 t6 t7 |-
  cases t with
  |nil=>
   simp only[Fo.size,Z0p] at t3;simp only[bn] at t7;subst t7
   repeat'(first|refine yA ?_|refine y2 ?_ ?_|refine y4 λh=>?_|exact y5|fail)
   refine⟨.inl rfl,_,[0,1,2,3,4,5,6,7],ah _,fY rfl ?_ rfl ?_ rfl rfl⟩
   ·exact⟨rfl,rfl,bh rfl ⟨rfl,bh rfl trivial⟩⟩
   ·(unfold FZ l_ bM;generalize List.flatMap mw _=cd;generalize List.flatMap cv _=cg;cases cd<;>cases cg<;>rfl)
  |cons x k n=>
   simp only[Fo.size] at t3
   have hr:bn false (.cons x k n) j ⟨true,0,[]⟩ s=bn false n (j+1+k.size) ⟨true,0,[]⟩ (bn false (.cons x k .nil) j ⟨true,0,[]⟩ s):=by simp only[bn]
   rw[hr] at t7;have hl:=dt false (.cons x k .nil) j ⟨true,0,[]⟩ s;simp only[Fo.size,Z0p] at hl;have hrec:=wY p hp hw (k.size+1) x k 68 j ⟨true,0,[]⟩ s (Z1t _) (.inl rfl) ⟨t1.1,t1.2.1,t1.2.2.1,trivial⟩ ⟨t2.1,t2.2.1,trivial⟩ t4 t5 t6;generalize bn false (.cons x k .nil) j ⟨true,0,[]⟩ s=s' at*
   have k2:fg 8 (FZ p s)=true:=by (unfold FZ l_ bM;generalize List.flatMap mw _=cd;generalize List.flatMap cv _=cg;cases cd<;>cases cg<;>rfl)
   repeat'(first|refine yA ?_|refine y2 ?_ ?_|refine y4 λh=>?_|(refine wX ?_;refine kF [0,1,2,3,4,5,6,7] hrec rfl k2 rfl rfl rfl ⟨ah _,ah _,VLe.agg ⟨SLe.refl _,SLe.refl _,SLe.nil,trivial⟩,trivial⟩ ⟨⟨rfl,_,rfl,rfl,λh=>h⟩,⟨rfl,_,rfl,rfl,λh=>h⟩,mp rfl rfl ⟨⟨rfl,_,rfl,rfl,λh=>h⟩,mp rfl rfl trivial⟩⟩ rfl rfl (wr:=[(0,some (fJ p 8 s'.D.length 10 s'.G.length)),(1,some (qU s'.S)),(3,none),(6,none),(5,some (cF s'.F)),(8,l_ 8 s'.D),(10,bM 10 s'.G)]) (by show [_,_,_,_,_,_,_]=_;rw[az,az];rfl) ?_)|exact y5|fail)
   refine fX (n,j+1+k.size,s') ⟨t1.2.2.2,t2.2.2,ae,ae,ae,ae,t7⟩ (by simp only[Fo.size];omega) [0,1,2,8,9,5,10,11] rfl ?_ ?_ ?_
   ·repeat'(first|exact ah _|exact dd _|exact Z0o|refine⟨?_,?_⟩)
   ·exact⟨rfl,rfl,bh rfl ⟨rfl,bh rfl trivial⟩⟩
   ·(unfold FZ l_ bM;generalize List.flatMap mw _=cd;generalize List.flatMap cv _=cg;cases cd<;>cases cg<;>rfl)
