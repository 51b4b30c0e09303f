import Derived.Test.YtegjgpldfgjoiaaGreatDoorCnD11
import Derived.Lib.Bytealg
set_option linter.all false
set_option maxHeartbeats 40000000
set_option maxRecDepth 100000
namespace Go.Proofs.YtegjgpldfgjoiaaGreatDoor
open Go Ab
section
variable {i:Nat}
def uf (i:Nat) (z:Int):Bool:=decide (65<=z/\z<=90\/z=95\/48<=z/\z<=57/\0<i)
def lM (i:Nat) (c:UInt8):Bool:=uf i (c.toNat:Int)
theorem Fs {z:Int} (h:65<=z/\z<=90\/z=95\/48<=z/\z<=57/\0<i):uf i z=true:=decide_eq_true h
theorem Fu {z:Int} (h: ¬(65<=z/\z<=90)) (h': ¬z=95) (h'': ¬(48<=z/\z<=57/\0<i)):uf i z=false:=decide_eq_false λe=>e.elim h λe=>e.elim h' h''
def aN (s:By):Bool:=decide (1<=s.length)&&decide (s.length<=4)&&(List.range s.length).all λi=>lM i (s.getD i 0)
theorem AC {s:By} (h:i<s.length) (hc:lM i (s.getD i 0)=false):aN s=false:=by
 grind [aN]
theorem xN {s:By} (h1:1<=s.length) (h2:s.length<=4) (h:∀ i,i<s.length->lM i (s.getD i 0)=true):aN s=true:=by
 grind [aN]
theorem mo {p:Nat->Prop} {j:Nat} (h:∀ i,i<j->p i) (hj:p j):∀ i,i<j+1->p i:=λi hi=>by
 grind
theorem Dt (s:By):FQ 157 [sV s] 0 [] (bV (aN s)) 0 []:=by
 refine wW Tryz.func157 ?_
 repeat'(first|refine y1 ?_|refine y2 ?_ ?_|refine y4 λh=>?_|refine cJ (.inl rfl) rfl ?_|refine y3 ?_|exact y5|fail)
 ·grind [aN]
 ·grind [aN]
 ·refine cD (σ:=Nat) (λj=>[(16,nI j)]) (λ_=>[]) (λj=>j<=s.length/\∀ i,i<j->lM i (s.getD i 0)=true) (λj=>s.length-j) 0 rfl (λ_=>rfl) ⟨Z08 _,λi hi=>by omega⟩ bc trivial ?_
  rintro j ⟨hj,hall⟩
  repeat'(first|refine y1 ?_|refine y2 ?_ ?_|refine y4 λh=>?_|refine cJ (.inl rfl) rfl ?_|refine dT (j+1) ⟨?_,?_⟩ ?_ rfl bc trivial rfl rfl (Z02 _)|refine y3 ?_|exact y5|fail)
  all_goals first
   |exact (AC (i:=j) aa (Fu aa aa aa)).symm
   |(refine (xN aa aa λi hi=>hall i aa).symm)
   |exact mo hall (Fs aa)
structure Pth where
 root:Bool
 up:Int
 segs:List By
def aR (l:List By):S:=.frz (λk=>[.str (l.getD k [])]) 1 l.length
def cX (p:Pth):List S:=[.bool p.root,.int .i64 p.up,aR p.segs]
abbrev jh (p:Pth):V:=.agg (cX p)
def aA (p:Pth):Bool:=decide (0<=p.up)&& !(p.root&&decide (p.up≠0))&&decide (p.up<=32)&&decide ((p.segs.length:Int)<=32-p.up)&&p.segs.all aN&&(p.root||decide (0<p.up)||decide (0<p.segs.length))
theorem B5 {l:List By} {j:Nat} (h:j<l.length) (hc:aN (l.getD j [])=false):l.all aN=false:=ae
theorem wY {l:List By} (h:∀ i,i<l.length->aN (l.getD i [])=true):l.all aN=true:=by
 rw[Z0i];intro x hx;obtain⟨i,hi,rfl⟩:=Z2r.1 hx
 grind
theorem eg (root:Bool) (up:Int) (segs:List By):FQ 93 [.agg [.bool root,.int .i64 up,aR segs]] 0 [] (bV (aA ⟨root,up,segs⟩)) 0 []:=by
 refine wW Tryz.func93 ?_;cases root
 all_goals
  repeat'(first|refine y1 ?_|refine y2 ?_ ?_|refine y4 λh=>?_|refine cJ (.inl rfl) rfl ?_|refine y3 ?_|exact y5|fail)
  rotate_right
  ·refine cD (σ:=Nat) (λj=>[(32,nI j)]) (λ_=>[(0,some {cells:=[.bool _,.int .i64 up,aR segs],ty:=99})]) (λj=>j<=segs.length/\∀ i,i<j->aN (segs.getD i [])=true) (λj=>segs.length-j) 0 rfl (λ_=>rfl) ⟨Z08 _,λi hi=>by omega⟩ bc ⟨rfl,trivial⟩ ?_
   rintro j ⟨hj,hall⟩
   repeat'(first|refine y1 ?_|refine y2 ?_ ?_|refine y4 λh=>?_|refine bt (Dt _) ?_|refine cJ (.inl rfl) rfl ?_|refine dT (j+1) ⟨?_,?_⟩ ?_ rfl bc ⟨rfl,trivial⟩ rfl rfl ac|refine y3 ?_|exact y5|fail)
   all_goals first
    |omega
    |exact aj aa aa
    |exact mo hall ae
    |(have:=B5 (l:=segs) (j:=j) aa ‹aN _=false›;unfold aA;rw[this];simp)
    |(have:=wY (l:=segs) λi hi=>hall i aa
      unfold aA;rw[this];simp;first|done|omega|exact λ_ _ _=>⟨aa,Z4u.1 aa⟩)
  all_goals (unfold aA;simp;omega)
def bz (p:Pth):Bool:=p.root&&aA p
theorem vn (root:Bool) (up:Int) (segs:List By):FQ 94 [.agg [.bool root,.int .i64 up,aR segs]] 0 [] (bV (bz ⟨root,up,segs⟩)) 0 []:=by
 refine wW Tryz.func94 ?_;cases root
 all_goals
  repeat'(first|refine y1 ?_|refine y2 ?_ ?_|refine y4 λh=>?_|refine bt (eg _ _ _) ?_|refine cJ (.inl rfl) rfl ?_|refine y3 ?_|exact y5|fail)
 all_goals simp[bz, *]
def ud (p:Pth):Bool:= !p.root&&decide (p.up=0)&&decide ((p.segs.length:Int)=1)
theorem Fr (root:Bool) (up:Int) (segs:List By):FQ 254 [.agg [.bool root,.int .i64 up,aR segs]] 0 [] (bV (ud ⟨root,up,segs⟩)) 0 []:=by
 refine wW Tryz.func254 ?_;cases root
 all_goals
  repeat'(first|refine y1 ?_|refine y2 ?_ ?_|refine y4 λh=>?_|refine cJ (.inl rfl) rfl ?_|refine y3 ?_|exact y5|fail)
 all_goals simp[ud, *]
def dr (s p:By):Bool:=decide (p.length<=s.length)&&decide (s.take p.length=p)
theorem pd (s p:By):FQ 152 [sV s,sV p] 0 [] (bV (dr s p)) 0 []:=by
 refine wW Tryz.func152 ?_
 repeat'(first|refine y1 ?_|refine y2 ?_ ?_|refine y4 λh=>?_|refine cJ (.inl rfl) rfl ?_|refine y3 ?_|exact y5|fail)
 all_goals first
  |(unfold dr;simp[*];done)
  |(unfold dr;simp[*];omega)
theorem sU (s p:By):FQ 90 [sV s,sV p] 0 [] (bV (dr s p)) 0 []:=by
 refine wW Tryz.func90 ?_
 repeat'(first|refine y1 ?_|refine y2 ?_ ?_|refine an (pd _ _) ?_|refine cJ (.inl rfl) rfl ?_|refine y3 ?_|exact y5|fail)
def cI (s p:By):By×Bool:=if dr s p then (s.drop p.length,true) else (s,false)
theorem x9 (s p:By):FQ 151 [sV s,sV p] 0 [] (.tup [.s (.str (cI s p).1),.s (.bool (cI s p).2)]) 0 []:=by
 refine wW Tryz.func151 ?_
 repeat'(first|refine y1 ?_|refine y2 ?_ ?_|refine y4 λh=>?_|refine bt (pd _ _) ?_|refine g_ (.inl rfl) rfl ?_ rfl|refine y3 ?_|exact y5|fail)
 all_goals first
  |(unfold cI;simp[*];done)
  |(unfold dr at*;simp at*;omega)
theorem BF (s p:By):FQ 89 [sV s,sV p] 0 [] (.tup [.s (.str (cI s p).1),.s (.bool (cI s p).2)]) 0 []:=by
 refine wW Tryz.func89 ?_
 repeat'(first|refine y1 ?_|refine y2 ?_ ?_|refine an (x9 _ _) ?_|refine g_ (.inl rfl) rfl ?_ rfl|refine y3 ?_|exact y5|fail)
end
section
variable {n:Nat}
theorem vG (c:UInt8):((c.toNat:Int)).toNat.toUInt8=c:=av
theorem oS (s:By) (c:UInt8):XT Tryz.prog 154 [sV s,n8 (c.toNat:Int)] (nI ((s.count c:Nat):Int)):=by
 intro φ xs w hx
 match xs,hx with
 |[x,y],⟨h1,h2,_⟩=>
  have h1:x=.string ⟨s.toArray⟩:=h1;have h2:y=.int .u8 (c.toNat:Int):=h2;subst h1;subst h2;refine⟨.int .i64 ((s.count c:Nat):Int),?_,rfl⟩;rw[run_callFunc_extern (e:=Extern.BytealgCount.count) Tryz.func154 bd rfl (by rfl) (by rfl)];rw[show [Value.string ⟨s.toArray⟩,Value.int IntKind.u8 (c.toNat:Int)].toArray= #[.string ⟨s.toArray⟩,.int .u8 (c.toNat:Int)] from rfl,Go.Lib.run_countString,vG];rfl
theorem sQ (s:By) (c:UInt8):XT Tryz.prog 261 [sV s,n8 (c.toNat:Int)] (nI (Go.Lib.indexByte s c)):=by
 intro φ xs w hx
 match xs,hx with
 |[x,y],⟨h1,h2,_⟩=>
  have h1:x=.string ⟨s.toArray⟩:=h1;have h2:y=.int .u8 (c.toNat:Int):=h2;subst h1;subst h2;refine⟨.int .i64 (Go.Lib.indexByte s c),?_,rfl⟩;rw[run_callFunc_extern (e:=Extern.BytealgIndexByte.indexByte) Tryz.func261 bd rfl (by rfl) (by rfl)];rw[show [Value.string ⟨s.toArray⟩,Value.int IntKind.u8 (c.toNat:Int)].toArray= #[.string ⟨s.toArray⟩,.int .u8 (c.toNat:Int)] from rfl,Go.Lib.run_indexByteString,vG];rfl
theorem qH (s:By) (c:UInt8):FQ 91 [sV s,sV [c]] 0 [] (nI ((s.count c:Nat):Int)) 0 []:=by
 refine wW Tryz.func91 ?_
 repeat'(first|refine y1 ?_|refine y2 ?_ ?_|refine y4 λh=>?_|(refine wC ?_;first|refine CallG.xt (oS _ _) rfl rfl ?_|fail)|refine jE (.inl rfl) rfl ?_|refine y3 ?_|exact y5|fail)
 all_goals (simp at*;done)
theorem sR (s:By) (c:UInt8):FQ 244 [sV s,n8 (c.toNat:Int)] 0 [] (nI (Go.Lib.indexByte s c)) 0 []:=by
 refine wW Tryz.func244 ?_
 repeat'(first|refine y1 ?_|refine y2 ?_ ?_|(refine wC ?_;first|refine CallG.xt (sQ _ _) rfl rfl ?_|fail)|refine jE (.inl rfl) rfl ?_|refine y3 ?_|exact y5|fail)
theorem AI (s:By) (c:UInt8):FQ 211 [sV s,sV [c]] 0 [] (nI (Go.Lib.indexByte s c)) 0 []:=by
 refine wW Tryz.func211 ?_
 repeat'(first|refine y1 ?_|refine y2 ?_ ?_|(refine y4 λh=>?_;try(first|exact absurd rfl h|exact y6))|refine an (sR _ _) ?_|refine jE (.inl rfl) rfl ?_|refine y3 ?_|exact y5|fail)
 all_goals first
  |(exfalso;simp at*;done)
  |(subst_vars;simp[Go.Lib.indexByte];done)
theorem Dx (s:By) (c:UInt8):FQ 155 [sV s,sV [c]] 0 [] (nI (Go.Lib.indexByte s c)) 0 []:=by
 refine wW Tryz.func155 ?_
 repeat'(first|refine y1 ?_|refine y2 ?_ ?_|refine an (AI _ _) ?_|refine jE (.inl rfl) rfl ?_|refine y3 ?_|exact y5|fail)
def aF (c:UInt8):By->List By
 |[]=>[[]]
 |b::l=>if b=c then []::aF c l else match aF c l with|h::t=>(b::h)::t|[]=>[[b]]
theorem gx (c:UInt8):∀ s:By,(aF c s).length=s.count c+1
 |[]=>rfl
 |b::l=>by
  have ih:=gx c l
  grind [aF]
theorem kV (c:UInt8):∀ s:By,Go.Lib.indexByte s c= -1->aF c s=[s]
 |[],_=>rfl
 |b::l,h=>by
  unfold Go.Lib.indexByte at h;split at h
  ·cases h
  ·rename_i hb
   have hb: ¬b=c:=ae;have h1:=Go.Lib.indexByte_ge l c;split at h
   ·rename_i he
    have he:Go.Lib.indexByte l c= -1:=ae;simp only[aF,if_neg hb,kV c l he]
   all_goals grind
theorem oZ (c:UInt8):∀ (s:By) (k:Nat),Go.Lib.indexByte s c=(k:Int)->k<s.length/\aF c s=s.take k::aF c (s.drop (k+1))/\s.count c=(s.drop (k+1)).count c+1
 |[],k,h=>by unfold Go.Lib.indexByte at h;omega
 |b::l,k,h=>by
  unfold Go.Lib.indexByte at h;split at h
  ·grind [aF]
  ·rename_i hb
   have hb: ¬b=c:=ae;split at h
   ·grind
   ·have h1:=Go.Lib.indexByte_ge l c
    cases k with
    |zero=>
     grind
    |succ k=>
     obtain⟨i1,i2,i3⟩:=oZ c l k aa
     grind [aF]
theorem iz (c:UInt8):∀ s:By,s.count c=0->Go.Lib.indexByte s c= -1
 |[],_=>rfl
 |b::l,h=>by
  have hb: ¬b=c:=λe=>by grind
  rw[Z5u hb] at h;unfold Go.Lib.indexByte;rw[if_neg ae,iz c l h];rfl
theorem BH (c:UInt8) (s:By):s.count c<=s.length:=List.count_le_length
def rowS (n:Nat) (done:List By):List S:=done.map S.str++List.replicate (n-done.length) (.str [])
theorem rP {done:List By} (h:done.length<=n):(rowS n done).length=n:=by simp[rowS];omega
theorem rO {done:List By} (x:By) (h:done.length<n):bW (rowS n done) done.length [.str x]=rowS n (done++[x]):=by
 simp only[bW,rowS];rw[Z4y _ _ av];simp only[Z0z,Z3r,Z0d,Z13,Z3d,Z14,Z03,Z0n];rw[show n-done.length=(n-(done.length+1))+1 by omega,Z16,Z3k];rfl
theorem zn {l:List By} {k j:Nat} {x:S} (hk:k<l.length) (h:([S.str (l.getD k [])])[j]? =some x):(rowS n l)[k*1+j]? =some x/\bL x=true:=by
 cases j with
 |succ j=>simp at h
 |zero=>
  simp only[Z11,Z06] at h;subst h;refine⟨?_,rfl⟩
  grind [rowS]
theorem uM (s:By) (c:UInt8) (hl:s.length<9223372036854775807) (hc:s.count c<1000000):FQ 156 [sV s,sV [c],nI 0,nI (-1)] 0 [] (.s (aR (aF c s))) 0 []:=by
 have hcl:=BH c s;generalize hn:s.count c=n at*;refine wW Tryz.func156 ?_;have hcc:=qH s c;rw[hn] at hcc
 repeat'(first|refine yA ?_|refine y2 ?_ ?_|refine y4 λh=>?_|refine an hcc ?_|exact y5|fail)
 refine kO [.num ((n:Int)+1)] rfl rfl ⟨trivial,?_⟩ ?_
 ·grind
 repeat'(first|refine yA ?_|refine y2 ?_ ?_|exact y5|fail)
 refine kO [.idx (n+1),.idx (n+1)] rfl rfl ⟨rfl,rfl,Z02 _,?_,aa⟩ ?_
 ·rw[show (Tryz.prog.types[9]).bytes=16 by kernel_rfl];omega
 repeat'(first|refine yA ?_|refine y2 ?_ ?_|exact y5|fail)
 refine cD (σ:=List By×By) (λx=>[(0,sV x.2),(10,nI x.1.length)]) (λx=>[(0,some {cells:=rowS (n+1) x.1,ty:=9,sym:=true,flat:=true})]) (λx=>aF c s=x.1++aF c x.2/\x.1.length+x.2.count c=n/\x.2.length<=s.length) (λx=>n-x.1.length) ([],s) rfl (λ_=>rfl) ⟨rfl,ae,Z02 _⟩ bc ⟨rfl,trivial⟩ ?_;rintro⟨done,rem⟩ ⟨h1,h2,h3⟩;simp only at h1 h2 h3 |-;by_cases hlt:done.length<n
 ·obtain⟨k,hk⟩:∃ k:Nat,Go.Lib.indexByte rem c=(k:Int):=by
   have hge:=Go.Lib.indexByte_ge rem c
   have:Go.Lib.indexByte rem c≠ -1:=λe=>by
    grind [kV,gx]
   exact⟨(Go.Lib.indexByte rem c).toNat,aa⟩
  obtain⟨k1,k2,k3⟩:=oZ c rem k hk;have hidx:=Dx rem c;rw[hk] at hidx
  repeat'(first|refine yA ?_|refine y2 ?_ ?_|refine y4 λh=>?_|refine an hidx ?_|exact y5|fail)
  refine kO [.cells (rowS (n+1) (done++[rem.take k]))] rfl rfl ⟨?_,?_⟩ ?_
  ·rw[rP aa];show done.length+1<=n+1;omega
  ·exact (rO _ aa).symm
  repeat'(first|refine yA ?_|refine y2 ?_ ?_|exact y5|fail)
  ·
   grind [aj]
  ·simp;omega
  ·refine dT (done++[rem.take k],rem.drop (k+1)) ⟨?_,?_,?_⟩ ?_ rfl ⟨ah _,bp ?_,trivial⟩ ⟨rfl,trivial⟩ rfl rfl ac
   ·grind
   ·grind
   ·grind
   ·grind
   ·simp only[Z03,Z0n];rfl
 ·
  have hdn:done.length=n:=aa;have hno:Go.Lib.indexByte rem c= -1:=iz c rem aa
  have hfin:aF c s=done++[rem]:=by rw[h1,kV c rem hno]
  repeat'(first|refine yA ?_|refine y2 ?_ ?_|refine y4 λh=>?_|exact y5|fail)
  refine kO [.cells (rowS (n+1) (done++[rem]))] rfl rfl ⟨?_,?_⟩ ?_
  ·rw[rP aa];show done.length+1<=n+1;omega
  ·exact (rO _ aa).symm
  repeat'(first|refine yA ?_|refine y2 ?_ ?_|exact y5|fail)
  refine kO [.idx (done.length+1)] rfl rfl ⟨⟨rfl,?_⟩,trivial⟩ ?_
  ·show done.length+1<=n+1;omega
  repeat'(first|refine y1 ?_|refine y2 ?_ ?_|refine Ex.fz 8 (λk=>[.str ((aF c s).getD k [])]) 1 rfl rfl rfl rfl (λ_ _=>rfl) ?_ rfl rfl ?_|refine cW (.inl rfl) rfl ?_ rfl|refine y3 ?_|exact y5|fail)
  ·grind [zn]
  ·have:(aF c s).length=done.length+1:=ae
   unfold aR;rw[this];exact ah _
theorem vO (s:By) (c:UInt8) (hl:s.length<9223372036854775807) (hc:s.count c<1000000):FQ 92 [sV s,sV [c]] 0 [] (.s (aR (aF c s))) 0 []:=by
 refine wW Tryz.func92 ?_
 repeat'(first|refine y1 ?_|refine y2 ?_ ?_|refine an (uM s c hl hc) ?_|refine g_ (.inl rfl) rfl ?_ rfl|refine y3 ?_|exact y5|fail)
end
section
variable {x:Pth×Bool}
def cj:By->Nat×By
 |[]=>(0,[])
 |b::l=>if b=94 then ((cj l).1+1,(cj l).2) else (0,b::l)
theorem rk:∀ s:By,(cj s).1<=s.length/\(cj s).2.length<=s.length
 |[]=>by simp[cj]
 |b::l=>by
  have:=rk l
  grind [cj]
theorem xR {s:By} (h:dr s [94]=true):∃ l,s=94::l:=by
 cases s with
 |nil=>simp[dr] at h
 |cons b l=>simp[dr] at h;exact⟨l,by rw[h]⟩
theorem CC {s:By} (h: ¬dr s [94]=true):cj s=(0,s):=by
 cases s with
 |nil=>rfl
 |cons b l=>
  grind [dr,cj]
def z0:Pth:=⟨false,0,[]⟩
def eJ (p:Pth):Pth×Bool:=if aA p then (p,true) else (z0,false)
def dV (root:Bool) (u:Nat) (rest:By):Pth×Bool:=
 if rest=[] then eJ ⟨root,u,[]⟩ else if 32<=rest.count 46 then (z0,false) else eJ ⟨root,u,aF 46 rest⟩
def ak (s:By):Pth×Bool:=
 if (cI s [92]).2 then dV true 0 (cI s [92]).1 else dV false (cj (cI s [92]).1).1 (cj (cI s [92]).1).2
theorem u_ (s p:By):(cI s p).1.length<=s.length:=by
 unfold cI;split<;>simp
abbrev xv (x:Pth×Bool):V:=.tup [.agg (cX x.1),.s (.bool x.2)]
theorem fG {root:Bool} {up:Int} {segs:List By} {ok:Bool} (e:x=(⟨root,up,segs⟩,ok)):VLe (.tup [.agg [.bool root,.int .i64 up,aR segs],.s (.bool ok)]) (xv x):=e▸ah _
theorem dF (e:x=(z0,false)):VLe (.tup [.agg [.bool false,.int .i64 0,.slc none 0 (some 0)],.s (.bool false)]) (xv x):=
 e▸VLe.tup ⟨ULe.agg ⟨SLe.refl _,SLe.refl _,SLe.nil,trivial⟩,ULe.s (SLe.refl _),trivial⟩
theorem rY {root:Bool} {up:Int} {ok:Bool} (e:x=(⟨root,up,[]⟩,ok)):VLe (.tup [.agg [.bool root,.int .i64 up,.slc none 0 (some 0)],.s (.bool ok)]) (xv x):=
 e▸VLe.tup ⟨ULe.agg ⟨SLe.refl _,SLe.refl _,SLe.nil,trivial⟩,ULe.s (SLe.refl _),trivial⟩
theorem e9 (s:By) (hl:s.length<9223372036854775807):FQ 48 [sV s] 0 [] (xv (ak s)) 0 []:=by
 have hcp:=BF s [92];have hcl:=u_ s [92];unfold ak;generalize cI s [92]=c at*;obtain⟨r0,rooted⟩:=c;simp only at hcp hcl |-;refine wW Tryz.func48 ?_;cases rooted
 ·
  repeat'(first|refine yA ?_|refine y2 ?_ ?_|refine an hcp ?_|exact y5|fail)
  refine cD (σ:=Nat×By) (λx=>[(5,sV x.2)]) (λx=>[(0,some {cells:=[.bool false,.int .i64 0,.slc none 0 (some 0)],ty:=99}),(1,some {cells:=[.bool false,.int .i64 (x.1:Int),.slc none 0 (some 0)],ty:=99})])
   (λx=>x.1+x.2.length<=s.length/\(cj r0).1=x.1+(cj x.2).1/\(cj r0).2=(cj x.2).2) (λx=>x.2.length) (0,r0) rfl (λ_=>rfl) ⟨ae,av,rfl⟩ bc ⟨rfl,rfl,trivial⟩ ?_
  rintro⟨u,rest⟩ ⟨h1,h2,h3⟩;simp only at h1 h2 h3 |-;by_cases hp:dr rest [94]=true
  ·obtain⟨l,rfl⟩:=xR hp
   simp only[Z04] at h1
   have hu:cj (94::l)=((cj l).1+1,(cj l).2):=by simp[cj]
   rw[hu] at h2 h3;have hpre:=sU (94::l) [94];rw[hp] at hpre
   repeat'(first|refine yA ?_|refine y2 ?_ ?_|refine bt hpre ?_|exact y5|fail)
   ·simp
   ·refine dT (u+1,l) ⟨?_,?_,?_⟩ ?_ rfl bc ⟨rfl,rfl,trivial⟩ rfl rfl ac
    all_goals grind
  ·have hup:=CC hp
   rw[hup] at h2 h3;have hpf:dr rest [94]=false:=ae;have hpre:=sU rest [94];rw[hpf] at hpre;rw[h2,h3];simp only[Z0p]
   repeat'(first|refine y1 ?_|refine y2 ?_ ?_|refine y4 λh=>?_|refine bt hpre ?_|refine an (qH _ _) ?_|(refine wX ?_;refine CallG.pu (vO _ _ aa aa) rfl rfl rfl rfl ?_)|refine bt (eg _ _ _) ?_|(refine wC ?_;first|refine CallG.wb (eg false u []) rfl ?_ rfl rfl ?_|fail)|exact⟨VLe.agg ⟨SLe.refl _,SLe.refl _,SLe.nil,trivial⟩,trivial⟩|refine cW (.inl rfl) rfl ?_ rfl|refine y3 ?_|exact y5|fail)
   all_goals first
    |exact dF (by unfold dV eJ;simp_all<;>omega)
    |exact fG (by unfold dV eJ;simp_all<;>omega)
    |exact rY (by unfold dV eJ;simp_all<;>omega)
 ·
  have hu:cj r0=cj r0:=rfl
  repeat'(first|refine yA ?_|refine y2 ?_ ?_|refine an hcp ?_|exact y5|fail)
  refine cD (σ:=Unit) (λx=>[(5,sV r0)]) (λx=>[(0,some {cells:=[.bool false,.int .i64 0,.slc none 0 (some 0)],ty:=99}),(1,some {cells:=[.bool true,.int .i64 0,.slc none 0 (some 0)],ty:=99})])
   (λx=>True) (λx=>0) () rfl (λ_=>rfl) trivial bc ⟨rfl,rfl,trivial⟩ ?_
  rintro _ _
  repeat'(first|refine y1 ?_|refine y2 ?_ ?_|refine y4 λh=>?_|refine an (qH _ _) ?_|(refine wX ?_;refine CallG.pu (vO _ _ aa aa) rfl rfl rfl rfl ?_)|refine bt (eg _ _ _) ?_|(refine wC ?_;first|refine CallG.wb (eg true 0 []) rfl ?_ rfl rfl ?_|fail)|exact⟨VLe.agg ⟨SLe.refl _,SLe.refl _,SLe.nil,trivial⟩,trivial⟩|refine cW (.inl rfl) rfl ?_ rfl|refine y3 ?_|exact y5|fail)
  all_goals first
   |exact dF (by unfold dV eJ;simp_all<;>omega)
   |exact fG (by unfold dV eJ;simp_all<;>omega)
   |exact rY (by unfold dV eJ;simp_all<;>omega)
end
