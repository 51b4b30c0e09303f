import Derived.Test.YtegjgpldfgjoiaaGreatDoorCnJ16
import Derived.Test.YtegjgpldfgjoiaaGreatDoorCnJ22
set_option linter.all false
set_option maxHeartbeats 40000000
set_option maxRecDepth 100000
namespace Go.Proofs.YtegjgpldfgjoiaaGreatDoor
open Go Ab
section
variable {P:Program} {b:Nat} {env:List V} {n:Nat} {L:Hp} {R:Post}
theorem Ex.rowS {c:Code} (t i z m K:Nat) {bl:Bl} (ht:env.getD t .undef=.s (.slc (some (i,0)) m (some K))) (hli:lk L i=some bl) (hgh:bl.gh=none) (hro:bl.ro=false) (hK:K*z<=bl.cells.length) (h0:0<m) (hn:bl.cells.all bZ=true) (hk:bl.kind=none) (ha:bl.abs=none)
 {env':List V} (he:env.set t (.s (.row i n m))=env') {L':Hp} (hL:put L i (some {cells:=bl.cells,ty:=bl.ty,more:=true,sym:=true,flat:=true,gh:=some (n,z)})=L') (k:Ex P b c env' (n+1) L' R):Ex P b c env n L R:=by
 refine Ex.capS t i z ht hli hgh hK rfl rfl ?_
 have hlen:t<env.length:=by
  rcases Z0a t env.length with h|h
  ·exact h
  ·rw[Z00,Z0b h] at ht;cases ht
 refine gH (env':=env') t (.s (.row i n m)) ?_ (by rw[Z5m];exact he) ?_
 ·rw[Z00,Z1i,if_pos rfl,if_pos hlen]
  exact VLe.s (SLe.slarow h0)
 ·refine Ex.subF (λj bl' hj=>?_) k
  rw[<-hL,aC] at hj;split at hj
  ·rename_i e;subst e;cases hj
   refine⟨{bl with gh:=some (n,z)},by rw[aC,if_pos rfl],hro.symm,λφ w b h=>?_⟩;have h:=BlAt.flat (φ:=φ) (w:=w) (b:=b) (bl:={bl with gh:=some (n,z)}) hn h;obtain⟨pre,xs,rest,fr,h1,h2,h3,h4,h5,h6⟩:=h;simp only[hk,ha] at h1 h6;exact⟨pre,xs,rest,fr,h1,h2,h3,λe=>(by cases e),λ_=>h5 hro,h6⟩
  ·rename_i e
   exact⟨bl',by rw[aC,if_neg e];exact hj,rfl,λ_ _ _ h=>h⟩
end
abbrev Rw:=Int×By×By
def xF (r:Rw):List S:=[.int .i64 r.1,.str r.2.1,.str r.2.2]
def dR:Rw:=(0,[],[])
def rowsL:List Rw:=[(10,[83,99,111,112,101],[110,68]),(11,[68,101,118,105,99,101],[115,68]),(12,[80,111,119,101,114,82,101,115,111,117,114,99,101],[115,105,105,68]),(13,[78,97,109,101],[115,100]),(14,[77,101,116,104,111,100],[115,105,105,105,83]),(15,[79,112,101,114,97,116,105,111,110,82,101,103,105,111,110],[115,105,105,105]),(16,[70,105,101,108,100],[110,105,105,70]),(17,[73,110,100,101,120,70,105,101,108,100],[110,110,105,105,70]),(18,[85,110,105,116],[115,105]),(19,[83,107,105,112],[105]),(20,[77,117,116,101,120],[115,105]),(21,[69,118,101,110,116],[115]),(30,[83,116,111,114,101],[101,116]),(31,[73,102],[101,83]),(32,[87,104,105,108,101],[101,83]),(33,[82,101,116,117,114,110],[]),(34,[66,114,101,97,107],[]),(35,[67,111,110,116,105,110,117,101],[]),(36,[82,101,108,101,97,115,101],[110]),(37,[83,105,103,110,97,108],[110]),(38,[82,101,115,101,116],[110]),(39,[83,108,101,101,112],[101]),(40,[78,111,116,105,102,121],[110,101]),(41,[65,99,113,117,105,114,101],[110,105]),(42,[87,97,105,116],[110,101]),(50,[66,117,102,102,101,114],[105,73]),(51,[80,97,99,107,97,103,101],[105,80]),(85,[82,101,102,79,102],[116]),(87,[79,98,106,101,99,116,84,121,112,101],[116]),(86,[67,111,110,100,82,101,102,79,102],[110]),(88,[77,105,100],[101,101,101]),(60,[65,100,100],[101,101]),(61,[83,117,98,116,114,97,99,116],[101,101]),(62,[77,117,108,116,105,112,108,121],[101,101]),(63,[68,105,118,105,100,101],[101,101]),(64,[77,111,100],[101,101]),(65,[65,110,100],[101,101]),(66,[79,114],[101,101]),(67,[88,111,114],[101,101]),(68,[83,104,105,102,116,76,101,102,116],[101,101]),(69,[83,104,105,102,116,82,105,103,104,116],[101,101]),(70,[76,65,110,100],[101,101]),(71,[76,79,114],[101,101]),(72,[76,69,113,117,97,108],[101,101]),(73,[76,76,101,115,115],[101,101]),(74,[76,71,114,101,97,116,101,114],[101,101]),(75,[67,111,110,99,97,116,101,110,97,116,101],[101,101]),(76,[73,110,100,101,120],[101,101]),(77,[78,111,116],[101]),(78,[76,78,111,116],[101]),(79,[83,105,122,101,79,102],[101]),(80,[84,111,73,110,116,101,103,101,114],[101]),(81,[84,111,66,117,102,102,101,114],[101]),(82,[84,111,72,101,120,83,116,114,105,110,103],[101]),(83,[84,111,68,101,99,105,109,97,108,83,116,114,105,110,103],[101]),(84,[68,101,114,101,102,79,102],[101])]
def twoL:List By:=[[65,100,100],[83,117,98,116,114,97,99,116],[77,117,108,116,105,112,108,121],[68,105,118,105,100,101],[77,111,100],[65,110,100],[79,114],[88,111,114],[83,104,105,102,116,76,101,102,116],[83,104,105,102,116,82,105,103,104,116],[76,65,110,100],[76,79,114],[76,69,113,117,97,108],[76,76,101,115,115],[76,71,114,101,97,116,101,114],[67,111,110,99,97,116,101,110,97,116,101],[73,110,100,101,120]]
def oneL:List By:=[[78,111,116],[76,78,111,116],[83,105,122,101,79,102],[84,111,73,110,116,101,103,101,114],[84,111,66,117,102,102,101,114],[84,111,72,101,120,83,116,114,105,110,103],[84,111,68,101,99,105,109,97,108,83,116,114,105,110,103],[68,101,114,101,102,79,102]]
theorem sX:∀ l:List Rw,(l.flatMap xF).length=l.length*3
 |[]=>rfl
 |r::t=>by rw[Z0g,Z03,sX t,Z04];show 3+_=_;omega
theorem vu:∀ j,j<56->rowsL.take (j+1)=rowsL.take j++[rowsL.getD j dR]:=ac
theorem GJ:∀ j,j<17->rowsL.getD (31+j) dR=(60+(j:Int),twoL.getD j [],[101,101]):=ac
theorem Hn:∀ j,j<8->rowsL.getD (48+j) dR=(77+(j:Int),oneL.getD j [],[101]):=ac
theorem Dj:FQ 210 [] 0 [] (.s (.frz (λk=>xF (rowsL.getD k dR)) 3 56)) 0 []:=by
 refine wW Tryz.func210 ?_
 repeat'(first|refine yA ?_|refine y2 ?_ ?_|exact y5|fail)
 refine Ex.fz 2 (λk=>[.str (twoL.getD k [])]) 1 (i:=1) (N:=17) rfl rfl rfl rfl (λ_ _=>rfl) (λk j x hk hx=>?_) rfl rfl ?_
 ·cases j with
  |succ j=>simp at hx
  |zero=>
   cases hx;exact⟨cq (λs=>[S.str s]) 1 [] (λ_=>rfl) (l:=twoL) hk rfl,rfl⟩
 have hrw:=GJ;generalize twoL=tl at*;refine gH 37 .any (dd _) rfl (gH 38 .any (dd _) rfl ?_);refine Ex.rowS 1 0 3 31 31 rfl rfl rfl rfl ac ac rfl rfl rfl rfl rfl ?_;refine cy (σ:=Nat) (λj=>[(3,nI j),(1,.s (.row 0 2 (31+j)))]) (λj=>[(0,fq 207 2 3 ((rowsL.take (31+j)).flatMap xF))]) (λj=>j<=17) (λj=>17-j) 0 rfl (λ_=>rfl) (Z08 _) aP ⟨rfl,trivial⟩ ?_;intro j hj;have hsz:(Tryz.prog.types[207]).size=3:=aK;have hby:(Tryz.prog.types[207]).bytes=40:=aK;have hl:rowsL.length=56:=rfl;by_cases h:j<17
 ·have hr:=hrw j h
  have hfl:((rowsL.take (31+j)).flatMap xF).length=(31+j)*3:=by rw[sX,Z19];congr 1;omega
  repeat'(first|refine y1 ?_|refine y2 ?_ ?_|refine y4 λh=>?_|refine gZ (i:=0) (g:=2) (m:=31+j) (w:=3) (cs:=(rowsL.take (31+j)).flatMap xF) (foot:=[3]) (k:=1) (add:=xF (60+(j:Int),tl.getD j [],[101,101])) rfl rfl hfl rfl rfl rfl rfl rfl rfl rfl hsz ac rfl ⟨Z02 _,rfl⟩ ac (by simp[xF]) rfl (by rw[hby];omega) aa rfl ?_|refine y3 ?_|exact y5|fail)
  refine fX (j+1) aa aa [4,1,5] rfl ?_ ?_ ?_
  ·repeat'(first|exact ah _|exact dd _|exact Z0o|refine⟨?_,?_⟩)
  ·refine bh ?_ trivial
   rw[show 31+(j+1)=31+j+1 by omega,vu (31+j) aa,Z0r,hr];rfl
  ·generalize List.flatMap _ _=cg
   cases cg<;>rfl
 ·obtain rfl:j=17:=aa
  repeat'(first|refine yA ?_|refine y2 ?_ ?_|refine y4 λh=>?_|exact y5|fail)
  refine Ex.fz 4 (λk=>[.str (oneL.getD k [])]) 1 (i:=3) (N:=8) rfl rfl rfl rfl (λ_ _=>rfl) (λk j x hk hx=>?_) rfl rfl ?_
  ·cases j with
   |succ j=>simp at hx
   |zero=>
    cases hx;exact⟨cq (λs=>[S.str s]) 1 [] (λ_=>rfl) (l:=oneL) hk rfl,rfl⟩
  have hrw:=Hn;generalize oneL=tl at*;refine gH 55 .any (dd _) rfl ?_;refine cy (σ:=Nat) (λj=>[(5,nI j),(1,.s (.row 0 2 (48+j)))]) (λj=>[(0,fq 207 2 3 ((rowsL.take (48+j)).flatMap xF))]) (λj=>j<=8) (λj=>8-j) 0 rfl (λ_=>rfl) (Z08 _) aP ⟨rfl,trivial⟩ ?_;intro j hj;by_cases h:j<8
  ·have hr:=hrw j h
   have hfl:((rowsL.take (48+j)).flatMap xF).length=(48+j)*3:=by rw[sX,Z19];congr 1;omega
   repeat'(first|refine y1 ?_|refine y2 ?_ ?_|refine y4 λh=>?_|refine gZ (i:=0) (g:=2) (m:=48+j) (w:=3) (cs:=(rowsL.take (48+j)).flatMap xF) (foot:=[4]) (k:=1) (add:=xF (77+(j:Int),tl.getD j [],[101])) rfl rfl hfl rfl rfl rfl rfl rfl rfl rfl hsz ac rfl ⟨Z02 _,rfl⟩ ac (by simp[xF]) rfl (by rw[hby];omega) aa rfl ?_|refine y3 ?_|exact y5|fail)
   refine fX (j+1) aa aa [5,1,6,3] rfl ?_ ?_ ?_
   ·repeat'(first|exact ah _|exact dd _|exact Z0o|refine⟨?_,?_⟩)
   ·refine bh ?_ trivial
    rw[show 48+(j+1)=48+j+1 by omega,vu (48+j) aa,Z0r,hr];rfl
   ·generalize List.flatMap _ _=cg
    cases cg<;>rfl
  ·obtain rfl:j=8:=aa
   rw[show rowsL.take (48+8)=rowsL from rfl]
   repeat'(first|refine y1 ?_|refine y2 ?_ ?_|refine y4 λh=>?_|refine Ex.fzR 0 xF 3 dR rowsL rfl rfl (λ_=>rfl) (λa j x h=>?_) ac rfl rfl ?_|refine dv (.inl rfl) rfl (ah _) rfl|refine y3 ?_|exact y5|fail)
   rcases j with _|_|_|j
   ·cases h;rfl
   ·cases h;rfl
   ·cases h;rfl
   ·simp[xF] at h
def vx (op:Int):List Rw->Rw×Bool
 |[]=>(dR,false)
 |r::t=>if r.1=op then (r,true) else vx op t
def pD (op:Int):Rw×Bool:=vx op rowsL
theorem sZ (op:Int):FQ 145 [nI op] 0 [] (.tup [.agg (xF (pD op).1),.s (.bool (pD op).2)]) 0 []:=by
 refine wW Tryz.func145 ?_;have hl:rowsL.length=56:=rfl;unfold pD;generalize hR:vx op rowsL=R
 repeat'(first|refine yA ?_|refine y2 ?_ ?_|refine an Dj ?_|exact y5|fail)
 generalize rowsL=rl at*;refine cy (σ:=Nat) (λj=>[(5,nI j)]) (λ_=>[(0,some {cells:=[.int .i64 0,.str [],.str []],ty:=207})]) (λj=>j<=56/\vx op (rl.drop j)=R) (λj=>56-j) 0 rfl (λ_=>rfl) ⟨Z08 _,hR⟩ aP ⟨rfl,trivial⟩ ?_;rintro j ⟨hj,hI⟩;by_cases h:j<56
 ·have hd:rl.drop j=rl.getD j dR::rl.drop (j+1):=by
   rw[Z0k aa,Z00,Z01 aa];rfl
  rw[hd] at hI;simp only[vx] at hI;by_cases ho:(rl.getD j dR).1=op
  ·rw[if_pos ho] at hI
   subst hI
   repeat'(first|refine y1 ?_|refine y2 ?_ ?_|refine y4 λh=>?_|refine jk (.inl rfl) rfl ?_ rfl|refine y3 ?_|exact y5|fail)
  ·rw[if_neg ho] at hI
   repeat'(first|refine yA ?_|refine y2 ?_ ?_|refine y4 λh=>?_|exact y5|fail)
   refine dz (j+1) ⟨aa,hI⟩ aa rfl aP ⟨rfl,trivial⟩ rfl rfl ac
 ·rw[Z10 aa] at hI
  subst hI
  repeat'(first|refine y1 ?_|refine y2 ?_ ?_|refine y4 λh=>?_|refine jk (.inl rfl) rfl ?_ rfl|refine y3 ?_|exact y5|fail)
def eU (op kids:Int):By×Bool:=
 if op=1\/op=2\/op=3\/op=6\/op=7 then ([],decide (kids=0))
 else if op=5 then (if kids<0\/7<kids then ([],false) else (e7.take kids.toNat,true))
 else if op=31/\kids=3 then ([101,83,83],true)
 else if op=33/\kids=1 then ([101],true)
 else ((pD op).1.2.2,(pD op).2&&decide (((pD op).1.2.2.length:Int)=kids))
theorem Et (op:Int) (k:Nat):FQ 149 [nI op,nI (k:Int)] 0 [] (.tup [.s (.str (eU op k).1),.s (.bool (eU op k).2)]) 0 []:=by
 refine wW Tryz.func149 ?_;have hr:=sZ op;unfold eU;generalize pD op=R at*;obtain⟨⟨o,wd,kd⟩,ok⟩:=R;cases ok
 all_goals
  repeat'(first|refine y1 ?_|refine y2 ?_ ?_|refine y4 λh=>?_|refine an hr ?_|refine jk (.inl rfl) rfl ?_ rfl|refine y3 ?_|exact y5|fail)
  all_goals first
   |(show k<=7;omega)
   |exact GM (by unfold e7;simp_all<;>omega)
theorem Eu (op:Int) (k:Int) (hk:k<0):FQ 149 [nI op,nI k] 0 [] (.tup [.s (.str (eU op k).1),.s (.bool (eU op k).2)]) 0 []:=by
 refine wW Tryz.func149 ?_;have hr:=sZ op;unfold eU;generalize pD op=R at*;obtain⟨⟨o,wd,kd⟩,ok⟩:=R;cases ok
 all_goals
  repeat'(first|refine y1 ?_|refine y2 ?_ ?_|refine y4 λh=>?_|refine an hr ?_|refine jk (.inl rfl) rfl ?_ rfl|refine y3 ?_|exact y5|fail)
  all_goals exact GM (by unfold e7;simp_all<;>omega)
theorem Ev (op k:Int):FQ 149 [nI op,nI k] 0 [] (.tup [.s (.str (eU op k).1),.s (.bool (eU op k).2)]) 0 []:=by
 by_cases h:k<0
 ·exact Eu op k h
 ·obtain⟨n,rfl⟩:=Z2a (aa:0<=k)
  exact Et op n
theorem B8 (op int:Int) (str:By) (kids k:Int) (hl:str.length<=4398046511104):FQ 150 [.agg [.int .i64 op,.int .u64 int,.str str,.int .i64 kids],n8 k] 0 [] (bV (b_ ⟨op,int,str,kids⟩ k)) 0 []:=by
 have hpp:=eG str hl;have hsg:=ve str aa
 have hkey:∀ p,ai str=(p,true)->aM p=str/\BA p=a_ str/\aG p=true:=λp h=>⟨rV h,GX h,jA h⟩
 generalize hp:ai str=pp at*;obtain⟨pt,ok⟩:=pp;refine wW Tryz.func150 ?_;cases ok
 ·
  obtain⟨root,up,segs⟩:=pt
  repeat'(first|refine y1 ?_|refine y2 ?_ ?_|refine y4 λh=>?_|refine an hpp ?_|refine cL (.inl rfl) rfl ?_|refine y3 ?_|exact y5|fail)
  all_goals first
   |(unfold b_;simp_all;done)
   |(unfold b_;simp_all;omega)
 ·
  obtain⟨k1,k2,k3⟩:=hkey pt rfl
  have hso:de pt.segs:=λi hi=>by
   have:=mJ (aR k3).2.2.2.2.1 hi;omega
  have hfm:=kZ pt hso;rw[k1] at hfm;obtain⟨root,up,segs⟩:=pt
  cases hsb:a_ str<;>rw[hsb] at hsg
  all_goals
   repeat'(first|refine y1 ?_|refine y2 ?_ ?_|refine y4 λh=>?_|refine an hpp ?_|refine an hfm ?_|refine bG hsg ?_|refine cL (.inl rfl) rfl ?_|refine y3 ?_|exact y5|fail)
   all_goals first
    |(unfold b_;simp_all;done)
    |(unfold b_;simp_all;omega)
theorem B9 (x:Nd) (k:Int) (hl:x.str.length<=4398046511104):FQ 150 [L3 x,n8 k] 0 [] (bV (b_ x k)) 0 []:=B8 x.op x.int x.str x.kids k hl
