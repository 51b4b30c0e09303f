import Derived.Test.YtegjgpldfgjoiaaGreatDoorCnJ11
import Derived.Lib.Bytealg
set_option linter.all false
set_option maxHeartbeats 40000000
set_option maxRecDepth 100000
namespace Go.Proofs.YtegjgpldfgjoiaaGreatDoor
open Go Ab
section
variable {i:Nat}
def xS (i:Nat) (z:Int):Bool:=decide (65<=z/\z<=90\/z=95\/48<=z/\z<=57/\0<i)
def nN (i:Nat) (c:UInt8):Bool:=xS i (c.toNat:Int)
theorem JD {z:Int} (h:65<=z/\z<=90\/z=95\/48<=z/\z<=57/\0<i):xS i z=true:=decide_eq_true h
theorem JE {z:Int} (h: ¬(65<=z/\z<=90)) (h': ¬z=95) (h'': ¬(48<=z/\z<=57/\0<i)):xS i z=false:=decide_eq_false λe=>e.elim h λe=>e.elim h' h''
def a_ (s:By):Bool:=decide (1<=s.length)&&decide (s.length<=4)&&(List.range s.length).all λi=>nN i (s.getD i 0)
theorem EA {s:By} (h:i<s.length) (hc:nN i (s.getD i 0)=false):a_ s=false:=by
 grind [a_]
theorem BZ {s:By} (h1:1<=s.length) (h2:s.length<=4) (h:∀ i,i<s.length->nN i (s.getD i 0)=true):a_ s=true:=by
 grind [a_]
theorem oW {p:Nat->Prop} {j:Nat} (h:∀ i,i<j->p i) (hj:p j):∀ i,i<j+1->p i:=λi hi=>by
 grind
theorem HL (s:By):FQ 157 [sV s] 0 [] (bV (a_ s)) 0 []:=by
 refine wW Tryz.func157 ?_
 repeat'(first|refine y1 ?_|refine y2 ?_ ?_|refine y4 λh=>?_|refine cL (.inl rfl) rfl ?_|refine y3 ?_|exact y5|fail)
 ·grind [a_]
 ·grind [a_]
 ·refine cy (σ:=Nat) (λj=>[(16,nI j)]) (λ_=>[]) (λj=>j<=s.length/\∀ i,i<j->nN i (s.getD i 0)=true) (λj=>s.length-j) 0 rfl (λ_=>rfl) ⟨Z08 _,λi hi=>by omega⟩ aP trivial ?_
  rintro j ⟨hj,hall⟩
  repeat'(first|refine y1 ?_|refine y2 ?_ ?_|refine y4 λh=>?_|refine cL (.inl rfl) rfl ?_|refine dz (j+1) ⟨?_,?_⟩ ?_ rfl aP trivial rfl rfl (Z02 _)|refine y3 ?_|exact y5|fail)
  all_goals first
   |exact (EA (i:=j) aa (JE aa aa aa)).symm
   |(refine (BZ aa aa λi hi=>hall i aa).symm)
   |exact oW hall (JD aa)
structure Pth where
 root:Bool
 up:Int
 segs:List By
def bc (l:List By):S:=.frz (λk=>[.str (l.getD k [])]) 1 l.length
def cH (p:Pth):List S:=[.bool p.root,.int .i64 p.up,bc p.segs]
abbrev hY (p:Pth):V:=.agg (cH p)
def aG (p:Pth):Bool:=decide (0<=p.up)&& !(p.root&&decide (p.up≠0))&&decide (p.up<=32)&&decide ((p.segs.length:Int)<=32-p.up)&&p.segs.all a_&&(p.root||decide (0<p.up)||decide (0<p.segs.length))
theorem F1 {l:List By} {j:Nat} (h:j<l.length) (hc:a_ (l.getD j [])=false):l.all a_=false:=ae
theorem Bd {l:List By} (h:∀ i,i<l.length->a_ (l.getD i [])=true):l.all a_=true:=by
 rw[Z0i];intro x hx;obtain⟨i,hi,rfl⟩:=Z2r.1 hx
 grind
theorem fm (root:Bool) (up:Int) (segs:List By):FQ 93 [.agg [.bool root,.int .i64 up,bc segs]] 0 [] (bV (aG ⟨root,up,segs⟩)) 0 []:=by
 refine wW Tryz.func93 ?_;cases root
 all_goals
  repeat'(first|refine y1 ?_|refine y2 ?_ ?_|refine y4 λh=>?_|refine cL (.inl rfl) rfl ?_|refine y3 ?_|exact y5|fail)
  rotate_right
  ·refine cy (σ:=Nat) (λj=>[(32,nI j)]) (λ_=>[(0,some {cells:=[.bool _,.int .i64 up,bc segs],ty:=99})]) (λj=>j<=segs.length/\∀ i,i<j->a_ (segs.getD i [])=true) (λj=>segs.length-j) 0 rfl (λ_=>rfl) ⟨Z08 _,λi hi=>by omega⟩ aP ⟨rfl,trivial⟩ ?_
   rintro j ⟨hj,hall⟩
   repeat'(first|refine y1 ?_|refine y2 ?_ ?_|refine y4 λh=>?_|refine bG (HL _) ?_|refine cL (.inl rfl) rfl ?_|refine dz (j+1) ⟨?_,?_⟩ ?_ rfl aP ⟨rfl,trivial⟩ rfl rfl ac|refine y3 ?_|exact y5|fail)
   all_goals first
    |omega
    |exact aB aa aa
    |exact oW hall ae
    |(have:=F1 (l:=segs) (j:=j) aa ‹a_ _=false›;unfold aG;rw[this];simp)
    |(have:=Bd (l:=segs) λi hi=>hall i aa
      unfold aG;rw[this];simp;first|done|omega|exact λ_ _ _=>⟨aa,Z4u.1 aa⟩)
  all_goals (unfold aG;simp;omega)
def bR (p:Pth):Bool:=p.root&&aG p
theorem zr (root:Bool) (up:Int) (segs:List By):FQ 94 [.agg [.bool root,.int .i64 up,bc segs]] 0 [] (bV (bR ⟨root,up,segs⟩)) 0 []:=by
 refine wW Tryz.func94 ?_;cases root
 all_goals
  repeat'(first|refine y1 ?_|refine y2 ?_ ?_|refine y4 λh=>?_|refine bG (fm _ _ _) ?_|refine cL (.inl rfl) rfl ?_|refine y3 ?_|exact y5|fail)
 all_goals simp[bR, *]
def BA (p:Pth):Bool:= !p.root&&decide (p.up=0)&&decide ((p.segs.length:Int)=1)
theorem JC (root:Bool) (up:Int) (segs:List By):FQ 254 [.agg [.bool root,.int .i64 up,bc segs]] 0 [] (bV (BA ⟨root,up,segs⟩)) 0 []:=by
 refine wW Tryz.func254 ?_;cases root
 all_goals
  repeat'(first|refine y1 ?_|refine y2 ?_ ?_|refine y4 λh=>?_|refine cL (.inl rfl) rfl ?_|refine y3 ?_|exact y5|fail)
 all_goals simp[BA, *]
def dZ (s p:By):Bool:=decide (p.length<=s.length)&&decide (s.take p.length=p)
theorem rU (s p:By):FQ 152 [sV s,sV p] 0 [] (bV (dZ s p)) 0 []:=by
 refine wW Tryz.func152 ?_
 repeat'(first|refine y1 ?_|refine y2 ?_ ?_|refine y4 λh=>?_|refine cL (.inl rfl) rfl ?_|refine y3 ?_|exact y5|fail)
 all_goals first
  |(unfold dZ;simp[*];done)
  |(unfold dZ;simp[*];omega)
theorem wF (s p:By):FQ 90 [sV s,sV p] 0 [] (bV (dZ s p)) 0 []:=by
 refine wW Tryz.func90 ?_
 repeat'(first|refine y1 ?_|refine y2 ?_ ?_|refine an (rU _ _) ?_|refine cL (.inl rfl) rfl ?_|refine y3 ?_|exact y5|fail)
def dJ (s p:By):By×Bool:=if dZ s p then (s.drop p.length,true) else (s,false)
theorem Ci (s p:By):FQ 151 [sV s,sV p] 0 [] (.tup [.s (.str (dJ s p).1),.s (.bool (dJ s p).2)]) 0 []:=by
 refine wW Tryz.func151 ?_
 repeat'(first|refine y1 ?_|refine y2 ?_ ?_|refine y4 λh=>?_|refine bG (rU _ _) ?_|refine jk (.inl rfl) rfl ?_ rfl|refine y3 ?_|exact y5|fail)
 all_goals first
  |(unfold dJ;simp[*];done)
  |(unfold dZ at*;simp at*;omega)
theorem Fw (s p:By):FQ 89 [sV s,sV p] 0 [] (.tup [.s (.str (dJ s p).1),.s (.bool (dJ s p).2)]) 0 []:=by
 refine wW Tryz.func89 ?_
 repeat'(first|refine y1 ?_|refine y2 ?_ ?_|refine an (Ci _ _) ?_|refine jk (.inl rfl) rfl ?_ rfl|refine y3 ?_|exact y5|fail)
end
section
variable {n:Nat}
theorem zL (c:UInt8):((c.toNat:Int)).toNat.toUInt8=c:=aq
theorem rp (s:By) (c:UInt8):XT Tryz.prog 154 [sV s,n8 (c.toNat:Int)] (nI ((s.count c:Nat):Int)):=by
 intro φ xs w hx
 match xs,hx with
 |[x,y],⟨h1,h2,_⟩=>
  have h1:x=.string ⟨s.toArray⟩:=h1;have h2:y=.int .u8 (c.toNat:Int):=h2;subst h1;subst h2;refine⟨.int .i64 ((s.count c:Nat):Int),?_,rfl⟩;rw[run_callFunc_extern (e:=Extern.BytealgCount.count) Tryz.func154 aK rfl (by rfl) (by rfl)];rw[show [Value.string ⟨s.toArray⟩,Value.int IntKind.u8 (c.toNat:Int)].toArray= #[.string ⟨s.toArray⟩,.int .u8 (c.toNat:Int)] from rfl,Go.Lib.run_countString,zL];rfl
theorem wA (s:By) (c:UInt8):XT Tryz.prog 261 [sV s,n8 (c.toNat:Int)] (nI (Go.Lib.indexByte s c)):=by
 intro φ xs w hx
 match xs,hx with
 |[x,y],⟨h1,h2,_⟩=>
  have h1:x=.string ⟨s.toArray⟩:=h1;have h2:y=.int .u8 (c.toNat:Int):=h2;subst h1;subst h2;refine⟨.int .i64 (Go.Lib.indexByte s c),?_,rfl⟩;rw[run_callFunc_extern (e:=Extern.BytealgIndexByte.indexByte) Tryz.func261 aK rfl (by rfl) (by rfl)];rw[show [Value.string ⟨s.toArray⟩,Value.int IntKind.u8 (c.toNat:Int)].toArray= #[.string ⟨s.toArray⟩,.int .u8 (c.toNat:Int)] from rfl,Go.Lib.run_indexByteString,zL];rfl
theorem ui (s:By) (c:UInt8):FQ 91 [sV s,sV [c]] 0 [] (nI ((s.count c:Nat):Int)) 0 []:=by
 refine wW Tryz.func91 ?_
 repeat'(first|refine y1 ?_|refine y2 ?_ ?_|refine y4 λh=>?_|(refine wC ?_;first|refine CallG.xt (rp _ _) rfl rfl ?_|fail)|refine lh (.inl rfl) rfl ?_|refine y3 ?_|exact y5|fail)
 all_goals (simp at*;done)
theorem wB (s:By) (c:UInt8):FQ 244 [sV s,n8 (c.toNat:Int)] 0 [] (nI (Go.Lib.indexByte s c)) 0 []:=by
 refine wW Tryz.func244 ?_
 repeat'(first|refine y1 ?_|refine y2 ?_ ?_|(refine wC ?_;first|refine CallG.xt (wA _ _) rfl rfl ?_|fail)|refine lh (.inl rfl) rfl ?_|refine y3 ?_|exact y5|fail)
theorem EE (s:By) (c:UInt8):FQ 211 [sV s,sV [c]] 0 [] (nI (Go.Lib.indexByte s c)) 0 []:=by
 refine wW Tryz.func211 ?_
 repeat'(first|refine y1 ?_|refine y2 ?_ ?_|(refine y4 λh=>?_;try(first|exact absurd rfl h|exact y6))|refine an (wB _ _) ?_|refine lh (.inl rfl) rfl ?_|refine y3 ?_|exact y5|fail)
 all_goals first
  |(exfalso;simp at*;done)
  |(subst_vars;simp[Go.Lib.indexByte];done)
theorem HP (s:By) (c:UInt8):FQ 155 [sV s,sV [c]] 0 [] (nI (Go.Lib.indexByte s c)) 0 []:=by
 refine wW Tryz.func155 ?_
 repeat'(first|refine y1 ?_|refine y2 ?_ ?_|refine an (EE _ _) ?_|refine lh (.inl rfl) rfl ?_|refine y3 ?_|exact y5|fail)
def aL (c:UInt8):By->List By
 |[]=>[[]]
 |b::l=>if b=c then []::aL c l else match aL c l with|h::t=>(b::h)::t|[]=>[[b]]
theorem iI (c:UInt8):∀ s:By,(aL c s).length=s.count c+1
 |[]=>rfl
 |b::l=>by
  have ih:=iI c l
  grind [aL]
theorem mH (c:UInt8):∀ s:By,Go.Lib.indexByte s c= -1->aL c s=[s]
 |[],_=>rfl
 |b::l,h=>by
  unfold Go.Lib.indexByte at h;split at h
  ·cases h
  ·rename_i hb
   have hb: ¬b=c:=ae;have h1:=Go.Lib.indexByte_ge l c;split at h
   ·rename_i he
    have he:Go.Lib.indexByte l c= -1:=ae;simp only[aL,if_neg hb,mH c l he]
   all_goals grind
theorem rE (c:UInt8):∀ (s:By) (k:Nat),Go.Lib.indexByte s c=(k:Int)->k<s.length/\aL c s=s.take k::aL c (s.drop (k+1))/\s.count c=(s.drop (k+1)).count c+1
 |[],k,h=>by unfold Go.Lib.indexByte at h;omega
 |b::l,k,h=>by
  unfold Go.Lib.indexByte at h;split at h
  ·grind [aL]
  ·rename_i hb
   have hb: ¬b=c:=ae;split at h
   ·grind
   ·have h1:=Go.Lib.indexByte_ge l c
    cases k with
    |zero=>
     grind
    |succ k=>
     obtain⟨i1,i2,i3⟩:=rE c l k aa
     grind [aL]
theorem jL (c:UInt8):∀ s:By,s.count c=0->Go.Lib.indexByte s c= -1
 |[],_=>rfl
 |b::l,h=>by
  have hb: ¬b=c:=λe=>by grind
  rw[Z5u hb] at h;unfold Go.Lib.indexByte;rw[if_neg ae,jL c l h];rfl
theorem Fy (c:UInt8) (s:By):s.count c<=s.length:=List.count_le_length
def rowS (n:Nat) (done:List By):List S:=done.map S.str++List.replicate (n-done.length) (.str [])
theorem vw {done:List By} (h:done.length<=n):(rowS n done).length=n:=by simp[rowS];omega
theorem vv {done:List By} (x:By) (h:done.length<n):bW (rowS n done) done.length [.str x]=rowS n (done++[x]):=by
 simp only[bW,rowS];rw[Z4y _ _ aq];simp only[Z0z,Z3r,Z0d,Z13,Z3d,Z14,Z03,Z0n];rw[show n-done.length=(n-(done.length+1))+1 by omega,Z16,Z3k];rfl
theorem Dl {l:List By} {k j:Nat} {x:S} (hk:k<l.length) (h:([S.str (l.getD k [])])[j]? =some x):(rowS n l)[k*1+j]? =some x/\bL x=true:=by
 cases j with
 |succ j=>simp at h
 |zero=>
  simp only[Z11,Z06] at h;subst h;refine⟨?_,rfl⟩
  grind [rowS]
theorem yF (s:By) (c:UInt8) (hl:s.length<9223372036854775807) (hc:s.count c<1000000):FQ 156 [sV s,sV [c],nI 0,nI (-1)] 0 [] (.s (bc (aL c s))) 0 []:=by
 have hcl:=Fy c s;generalize hn:s.count c=n at*;refine wW Tryz.func156 ?_;have hcc:=ui s c;rw[hn] at hcc
 repeat'(first|refine yA ?_|refine y2 ?_ ?_|refine y4 λh=>?_|refine an hcc ?_|exact y5|fail)
 refine mo [.num ((n:Int)+1)] rfl rfl ⟨trivial,?_⟩ ?_
 ·grind
 repeat'(first|refine yA ?_|refine y2 ?_ ?_|exact y5|fail)
 refine mo [.idx (n+1),.idx (n+1)] rfl rfl ⟨rfl,rfl,Z02 _,?_,aa⟩ ?_
 ·rw[show (Tryz.prog.types[9]).bytes=16 by kernel_rfl];omega
 repeat'(first|refine yA ?_|refine y2 ?_ ?_|exact y5|fail)
 refine cy (σ:=List By×By) (λx=>[(0,sV x.2),(10,nI x.1.length)]) (λx=>[(0,some {cells:=rowS (n+1) x.1,ty:=9,sym:=true,flat:=true})]) (λx=>aL c s=x.1++aL c x.2/\x.1.length+x.2.count c=n/\x.2.length<=s.length) (λx=>n-x.1.length) ([],s) rfl (λ_=>rfl) ⟨rfl,ae,Z02 _⟩ aP ⟨rfl,trivial⟩ ?_;rintro⟨done,rem⟩ ⟨h1,h2,h3⟩;simp only at h1 h2 h3 |-;by_cases hlt:done.length<n
 ·obtain⟨k,hk⟩:∃ k:Nat,Go.Lib.indexByte rem c=(k:Int):=by
   have hge:=Go.Lib.indexByte_ge rem c
   have:Go.Lib.indexByte rem c≠ -1:=λe=>by
    grind [mH,iI]
   exact⟨(Go.Lib.indexByte rem c).toNat,aa⟩
  obtain⟨k1,k2,k3⟩:=rE c rem k hk;have hidx:=HP rem c;rw[hk] at hidx
  repeat'(first|refine yA ?_|refine y2 ?_ ?_|refine y4 λh=>?_|refine an hidx ?_|exact y5|fail)
  refine mo [.cells (rowS (n+1) (done++[rem.take k]))] rfl rfl ⟨?_,?_⟩ ?_
  ·rw[vw aa];show done.length+1<=n+1;omega
  ·exact (vv _ aa).symm
  repeat'(first|refine yA ?_|refine y2 ?_ ?_|exact y5|fail)
  ·
   grind [aB]
  ·simp;omega
  ·refine dz (done++[rem.take k],rem.drop (k+1)) ⟨?_,?_,?_⟩ ?_ rfl ⟨ah _,bB ?_,trivial⟩ ⟨rfl,trivial⟩ rfl rfl ac
   ·grind
   ·grind
   ·grind
   ·grind
   ·simp only[Z03,Z0n];rfl
 ·
  have hdn:done.length=n:=aa;have hno:Go.Lib.indexByte rem c= -1:=jL c rem aa
  have hfin:aL c s=done++[rem]:=by rw[h1,mH c rem hno]
  repeat'(first|refine yA ?_|refine y2 ?_ ?_|refine y4 λh=>?_|exact y5|fail)
  refine mo [.cells (rowS (n+1) (done++[rem]))] rfl rfl ⟨?_,?_⟩ ?_
  ·rw[vw aa];show done.length+1<=n+1;omega
  ·exact (vv _ aa).symm
  repeat'(first|refine yA ?_|refine y2 ?_ ?_|exact y5|fail)
  refine mo [.idx (done.length+1)] rfl rfl ⟨⟨rfl,?_⟩,trivial⟩ ?_
  ·show done.length+1<=n+1;omega
  repeat'(first|refine y1 ?_|refine y2 ?_ ?_|refine Ex.fz 8 (λk=>[.str ((aL c s).getD k [])]) 1 rfl rfl rfl rfl (λ_ _=>rfl) ?_ rfl rfl ?_|refine dv (.inl rfl) rfl ?_ rfl|refine y3 ?_|exact y5|fail)
  ·grind [Dl]
  ·have:(aL c s).length=done.length+1:=ae
   unfold bc;rw[this];exact ah _
theorem zV (s:By) (c:UInt8) (hl:s.length<9223372036854775807) (hc:s.count c<1000000):FQ 92 [sV s,sV [c]] 0 [] (.s (bc (aL c s))) 0 []:=by
 refine wW Tryz.func92 ?_
 repeat'(first|refine y1 ?_|refine y2 ?_ ?_|refine an (yF s c hl hc) ?_|refine jk (.inl rfl) rfl ?_ rfl|refine y3 ?_|exact y5|fail)
end
section
variable {x:Pth×Bool}
def cU:By->Nat×By
 |[]=>(0,[])
 |b::l=>if b=94 then ((cU l).1+1,(cU l).2) else (0,b::l)
theorem uW:∀ s:By,(cU s).1<=s.length/\(cU s).2.length<=s.length
 |[]=>by simp[cU]
 |b::l=>by
  have:=uW l
  grind [cU]
theorem B1 {s:By} (h:dZ s [94]=true):∃ l,s=94::l:=by
 cases s with
 |nil=>simp[dZ] at h
 |cons b l=>simp[dZ] at h;exact⟨l,by rw[h]⟩
theorem GF {s:By} (h: ¬dZ s [94]=true):cU s=(0,s):=by
 cases s with
 |nil=>rfl
 |cons b l=>
  grind [dZ,cU]
def z0:Pth:=⟨false,0,[]⟩
def fQ (p:Pth):Pth×Bool:=if aG p then (p,true) else (z0,false)
def eP (root:Bool) (u:Nat) (rest:By):Pth×Bool:=
 if rest=[] then fQ ⟨root,u,[]⟩ else if 32<=rest.count 46 then (z0,false) else fQ ⟨root,u,aL 46 rest⟩
def ai (s:By):Pth×Bool:=
 if (dJ s [92]).2 then eP true 0 (dJ s [92]).1 else eP false (cU (dJ s [92]).1).1 (cU (dJ s [92]).1).2
theorem yV (s p:By):(dJ s p).1.length<=s.length:=by
 unfold dJ;split<;>simp
abbrev x6 (x:Pth×Bool):V:=.tup [.agg (cH x.1),.s (.bool x.2)]
theorem gR {root:Bool} {up:Int} {segs:List By} {ok:Bool} (e:x=(⟨root,up,segs⟩,ok)):VLe (.tup [.agg [.bool root,.int .i64 up,bc segs],.s (.bool ok)]) (x6 x):=e▸ah _
theorem eu (e:x=(z0,false)):VLe (.tup [.agg [.bool false,.int .i64 0,.slc none 0 (some 0)],.s (.bool false)]) (x6 x):=
 e▸VLe.tup ⟨ULe.agg ⟨SLe.refl _,SLe.refl _,SLe.nil,trivial⟩,ULe.s (SLe.refl _),trivial⟩
theorem vI {root:Bool} {up:Int} {ok:Bool} (e:x=(⟨root,up,[]⟩,ok)):VLe (.tup [.agg [.bool root,.int .i64 up,.slc none 0 (some 0)],.s (.bool ok)]) (x6 x):=
 e▸VLe.tup ⟨ULe.agg ⟨SLe.refl _,SLe.refl _,SLe.nil,trivial⟩,ULe.s (SLe.refl _),trivial⟩
theorem gq (s:By) (hl:s.length<9223372036854775807):FQ 48 [sV s] 0 [] (x6 (ai s)) 0 []:=by
 have hcp:=Fw s [92];have hcl:=yV s [92];unfold ai;generalize dJ s [92]=c at*;obtain⟨r0,rooted⟩:=c;simp only at hcp hcl |-;refine wW Tryz.func48 ?_;cases rooted
 ·
  repeat'(first|refine yA ?_|refine y2 ?_ ?_|refine an hcp ?_|exact y5|fail)
  refine cy (σ:=Nat×By) (λx=>[(5,sV x.2)]) (λx=>[(0,some {cells:=[.bool false,.int .i64 0,.slc none 0 (some 0)],ty:=99}),(1,some {cells:=[.bool false,.int .i64 (x.1:Int),.slc none 0 (some 0)],ty:=99})])
   (λx=>x.1+x.2.length<=s.length/\(cU r0).1=x.1+(cU x.2).1/\(cU r0).2=(cU x.2).2) (λx=>x.2.length) (0,r0) rfl (λ_=>rfl) ⟨ae,aq,rfl⟩ aP ⟨rfl,rfl,trivial⟩ ?_
  rintro⟨u,rest⟩ ⟨h1,h2,h3⟩;simp only at h1 h2 h3 |-;by_cases hp:dZ rest [94]=true
  ·obtain⟨l,rfl⟩:=B1 hp
   simp only[Z04] at h1
   have hu:cU (94::l)=((cU l).1+1,(cU l).2):=by simp[cU]
   rw[hu] at h2 h3;have hpre:=wF (94::l) [94];rw[hp] at hpre
   repeat'(first|refine yA ?_|refine y2 ?_ ?_|refine bG hpre ?_|exact y5|fail)
   ·simp
   ·refine dz (u+1,l) ⟨?_,?_,?_⟩ ?_ rfl aP ⟨rfl,rfl,trivial⟩ rfl rfl ac
    all_goals grind
  ·have hup:=GF hp
   rw[hup] at h2 h3;have hpf:dZ rest [94]=false:=ae;have hpre:=wF rest [94];rw[hpf] at hpre;rw[h2,h3];simp only[Z0p]
   repeat'(first|refine y1 ?_|refine y2 ?_ ?_|refine y4 λh=>?_|refine bG hpre ?_|refine an (ui _ _) ?_|(refine wX ?_;refine CallG.pu (zV _ _ aa aa) rfl rfl rfl rfl ?_)|refine bG (fm _ _ _) ?_|(refine wC ?_;first|refine CallG.wb (fm false u []) rfl ?_ rfl rfl ?_|fail)|exact⟨VLe.agg ⟨SLe.refl _,SLe.refl _,SLe.nil,trivial⟩,trivial⟩|refine dv (.inl rfl) rfl ?_ rfl|refine y3 ?_|exact y5|fail)
   all_goals first
    |exact eu (by unfold eP fQ;simp_all<;>omega)
    |exact gR (by unfold eP fQ;simp_all<;>omega)
    |exact vI (by unfold eP fQ;simp_all<;>omega)
 ·
  have hu:cU r0=cU r0:=rfl
  repeat'(first|refine yA ?_|refine y2 ?_ ?_|refine an hcp ?_|exact y5|fail)
  refine cy (σ:=Unit) (λx=>[(5,sV r0)]) (λx=>[(0,some {cells:=[.bool false,.int .i64 0,.slc none 0 (some 0)],ty:=99}),(1,some {cells:=[.bool true,.int .i64 0,.slc none 0 (some 0)],ty:=99})])
   (λx=>True) (λx=>0) () rfl (λ_=>rfl) trivial aP ⟨rfl,rfl,trivial⟩ ?_
  rintro _ _
  repeat'(first|refine y1 ?_|refine y2 ?_ ?_|refine y4 λh=>?_|refine an (ui _ _) ?_|(refine wX ?_;refine CallG.pu (zV _ _ aa aa) rfl rfl rfl rfl ?_)|refine bG (fm _ _ _) ?_|(refine wC ?_;first|refine CallG.wb (fm true 0 []) rfl ?_ rfl rfl ?_|fail)|exact⟨VLe.agg ⟨SLe.refl _,SLe.refl _,SLe.nil,trivial⟩,trivial⟩|refine dv (.inl rfl) rfl ?_ rfl|refine y3 ?_|exact y5|fail)
  all_goals first
   |exact eu (by unfold eP fQ;simp_all<;>omega)
   |exact gR (by unfold eP fQ;simp_all<;>omega)
   |exact vI (by unfold eP fQ;simp_all<;>omega)
end
structure Nd where
 op:Int
 int:Int
 str:By
 kids:Int
def ndC (x:Nd):List S:=[.int .i64 x.op,.int .u64 x.int,.str x.str,.int .i64 x.kids]
def dN:Nd:=⟨0,0,[],0⟩
abbrev L3 (x:Nd):V:=.agg (ndC x)
abbrev al (p:List Nd):V:=.s (.frz (λk=>ndC (p.getD k dN)) 4 p.length)
def dY (k:Int):Bool:=decide (65<=k/\k<=90)
theorem HM (k:Int):FQ 256 [n8 k] 0 [] (bV (dY k)) 0 []:=by
 refine wW Tryz.func256 ?_
 repeat'(first|refine y1 ?_|refine y2 ?_ ?_|refine y4 λh=>?_|refine cL (.inl rfl) rfl ?_|refine y3 ?_|exact y5|fail)
 all_goals (unfold dY;simp;omega)
def CZ (cs:Option (List S)) (k:Nat):By×By:=
 match cs with
 |some l=>match l[2*k]?,l[2*k+1]? with|some (.str a),some (.str b)=>(a,b)|_,_=>([],[])
 |none=>([],[])
def cQ (op:Int):By×By:=
 if 10<=op/\op<=21 then CZ (GS 1) (op-10).toNat
 else if 30<=op/\op<=42 then CZ (GS 2) (op-30).toNat
 else if 60<=op/\op<=88 then CZ (GS 3) (op-60).toNat
 else if op=50 then ([66,117,102,102,101,114],[105,73])
 else if op=51 then ([80,97,99,107,97,103,101],[105,80])
 else ([],[])
theorem HV (op:Int) (h1: ¬(10<=op/\op<=21)) (h2: ¬(30<=op/\op<=42)) (h3: ¬(60<=op/\op<=88)):FQ 255 [nI op] 0 [] (.agg [.str (cQ op).1,.str (cQ op).2]) 0 []:=by
 refine wW Tryz.func255 ?_;unfold cQ;rw[if_neg h1,if_neg h2,if_neg h3]
 repeat'(first|refine y1 ?_|refine y2 ?_ ?_|refine y4 λh=>?_|refine dv (.inl rfl) rfl ?_ rfl|refine y3 ?_|exact y5|fail)
 all_goals first
  |(rw[if_pos ae];exact ah _)
  |(rw[if_neg ae,if_pos ae];exact ah _)
  |(rw[if_neg ae,if_neg ae];exact ah _)
theorem Kw (op:Int) (h:op=10\/op=11\/op=12\/op=13\/op=14\/op=15\/op=16\/op=17\/op=18\/op=19\/op=20\/op=21):FQ 255 [nI op] 0 [] (.agg [.str (cQ op).1,.str (cQ op).2]) 0 []:=by
 refine wW Tryz.func255 ?_
 rcases h with rfl|rfl|rfl|rfl|rfl|rfl|rfl|rfl|rfl|rfl|rfl|rfl
 all_goals
  repeat'(first|refine y1 ?_|refine y2 ?_ ?_|refine y4 λh=>?_|refine dv (.inl rfl) rfl ?_ rfl|exact ah _|decide|refine y3 ?_|fail)
theorem Kt (op:Int) (h:op=30\/op=31\/op=32\/op=33\/op=34\/op=35\/op=36\/op=37\/op=38\/op=39\/op=40\/op=41\/op=42):FQ 255 [nI op] 0 [] (.agg [.str (cQ op).1,.str (cQ op).2]) 0 []:=by
 refine wW Tryz.func255 ?_
 rcases h with rfl|rfl|rfl|rfl|rfl|rfl|rfl|rfl|rfl|rfl|rfl|rfl|rfl
 all_goals
  repeat'(first|refine y1 ?_|refine y2 ?_ ?_|refine y4 λh=>?_|refine dv (.inl rfl) rfl ?_ rfl|exact ah _|decide|refine y3 ?_|fail)
theorem Kv (op:Int) (h:op=60\/op=61\/op=62\/op=63\/op=64\/op=65\/op=66\/op=67\/op=68\/op=69\/op=70\/op=71\/op=72\/op=73\/op=74):FQ 255 [nI op] 0 [] (.agg [.str (cQ op).1,.str (cQ op).2]) 0 []:=by
 refine wW Tryz.func255 ?_
 rcases h with rfl|rfl|rfl|rfl|rfl|rfl|rfl|rfl|rfl|rfl|rfl|rfl|rfl|rfl|rfl
 all_goals
  repeat'(first|refine y1 ?_|refine y2 ?_ ?_|refine y4 λh=>?_|refine dv (.inl rfl) rfl ?_ rfl|exact ah _|decide|refine y3 ?_|fail)
theorem Ku (op:Int) (h:op=75\/op=76\/op=77\/op=78\/op=79\/op=80\/op=81\/op=82\/op=83\/op=84\/op=85\/op=86\/op=87\/op=88):FQ 255 [nI op] 0 [] (.agg [.str (cQ op).1,.str (cQ op).2]) 0 []:=by
 refine wW Tryz.func255 ?_
 rcases h with rfl|rfl|rfl|rfl|rfl|rfl|rfl|rfl|rfl|rfl|rfl|rfl|rfl|rfl
 all_goals
  repeat'(first|refine y1 ?_|refine y2 ?_ ?_|refine y4 λh=>?_|refine dv (.inl rfl) rfl ?_ rfl|exact ah _|decide|refine y3 ?_|fail)
theorem EL (op:Int):FQ 255 [nI op] 0 [] (.agg [.str (cQ op).1,.str (cQ op).2]) 0 []:=by
 by_cases h1:10<=op/\op<=21
 ·exact Kw op aa
 by_cases h2:30<=op/\op<=42
 ·exact Kt op aa
 by_cases h3:60<=op/\op<=88
 ·by_cases h4:op<=74
  ·exact Kv op aa
  ·exact Ku op aa
 ·exact HV op h1 h2 h3
def e7:By:=[101,101,101,101,101,101,101]
def av (op kids:Int):By×Bool:=
 if op=5 then (if kids<0\/7<kids then ([],false) else (e7.take kids.toNat,true))
 else if op=33 then (if kids<0\/1<kids then ([],false) else (e7.take kids.toNat,true))
 else if op=31/\kids=3 then ([101,83,83],true)
 else ((cQ op).2,decide (((cQ op).2.length:Int)=kids))
theorem GM {a:By} {b:Bool} {x:By×Bool} (e:x=(a,b)):V.tup [U.s (S.str a),U.s (S.bool b)]=V.tup [U.s (S.str x.1),U.s (S.bool x.2)]:=by rw[e]
theorem Hz (op int:Int) (str:By) (k:Nat):FQ 224 [.agg [.int .i64 op,.int .u64 int,.str str,.int .i64 (k:Int)]] 0 [] (.tup [.s (.str (av op k).1),.s (.bool (av op k).2)]) 0 []:=by
 refine wW Tryz.func224 ?_
 repeat'(first|refine y1 ?_|refine y2 ?_ ?_|refine y4 λh=>?_|refine an (EL _) ?_|refine jk (.inl rfl) rfl ?_ rfl|refine y3 ?_|exact y5|fail)
 all_goals first
  |(show k<=7;omega)
  |exact GM (by unfold av e7;simp_all<;>omega)
theorem HA (op int:Int) (str:By) (k:Int) (hk:k<0):FQ 224 [.agg [.int .i64 op,.int .u64 int,.str str,.int .i64 k]] 0 [] (.tup [.s (.str (av op k).1),.s (.bool (av op k).2)]) 0 []:=by
 refine wW Tryz.func224 ?_
 repeat'(first|refine y1 ?_|refine y2 ?_ ?_|refine y4 λh=>?_|refine an (EL _) ?_|refine jk (.inl rfl) rfl ?_ rfl|refine y3 ?_|exact y5|fail)
 all_goals exact GM (by unfold av e7;simp_all<;>omega)
theorem HB (x:Nd):FQ 224 [L3 x] 0 [] (.tup [.s (.str (av x.op x.kids).1),.s (.bool (av x.op x.kids).2)]) 0 []:=by
 obtain⟨op,int,str,kids⟩:=x;by_cases h:kids<0
 ·exact HA op int str kids h
 ·obtain⟨k,rfl⟩:=Z2a (aa:0<=kids)
  exact Hz op int str k
def b_ (x:Nd) (k:Int):Bool:=
 (if x.op=1 then true else if x.op=6 then decide (x.int<8) else if x.op=7 then decide (x.int<7) else decide (x.int=0))&&
 (if x.op=3\/x.op=5 then (ai x.str).2&&(decide (k≠115)||BA (ai x.str).1) else if x.op=2 then decide (x.str.length<=255) else decide (x.str=[]))
theorem ES (op int:Int) (str:By) (kids k:Int) (hl:str.length<9223372036854775807):FQ 223 [.agg [.int .i64 op,.int .u64 int,.str str,.int .i64 kids],n8 k] 0 [] (bV (b_ ⟨op,int,str,kids⟩ k)) 0 []:=by
 have hpp:=gq str hl;generalize hp:ai str=pp at*;obtain⟨pt,ok⟩:=pp;obtain⟨root,up,segs⟩:=pt;refine wW Tryz.func223 ?_;cases ok
 all_goals
  repeat'(first|refine y1 ?_|refine y2 ?_ ?_|refine y4 λh=>?_|refine an hpp ?_|refine bG (JC _ _ _) ?_|refine cL (.inl rfl) rfl ?_|refine y3 ?_|exact y5|fail)
 all_goals first
  |(unfold b_;simp_all;done)
  |(unfold b_;simp_all;omega)
theorem wL (x:Nd) (k:Int) (hl:x.str.length<9223372036854775807):FQ 223 [L3 x,n8 k] 0 [] (bV (b_ x k)) 0 []:=ES x.op x.int x.str x.kids k hl
section
variable {p:List Nd}
def cR (rec:Nat->Option Nat):Nat->Nat->Option Nat
 |0,e=>some e
 |k+1,e=>match rec e with|some e'=>cR rec k e'|none=>none
def eJ (ch:Int->Nat->Option Nat):By->Nat->Option Nat
 |[],e=>some e
 |k::ks,e=>match ch (k.toNat:Int) e with|some e'=>eJ ch ks e'|none=>none
def dL (p:List Nd) (ok:Bool) (E0 E1:Nat->Int->Option Nat) (k:Int) (i:Nat):Option Nat:=
 if dY k then
  (match p[i]? with
  |none=>none
  |some y=>if ok=true/\y.op=4/\y.int=0/\y.str=[]/\0<=y.kids then cR (λe=>E1 e k) y.kids.toNat (i+1) else none)
 else E0 i k
def elemS (p:List Nd) (ok:Bool) (E0 E1:Nat->Int->Option Nat) (i:Nat) (k:Int):Option Nat:=
 match p[i]? with
 |none=>none
 |some x=>if bH k x.op=true/\b_ x k=true/\(av x.op x.kids).2=true then eJ (dL p ok E0 E1) (av x.op x.kids).1 (i+1) else none
def elemF (p:List Nd):Nat->Nat->Int->Option Nat
 |0,_,_=>none
 |1,i,k=>elemS p false (λ_ _=>none) (λ_ _=>none) i k
 |f+2,i,k=>elemS p true (elemF p (f+1)) (elemF p f) i k
theorem e9 (p:List Nd) (f:Nat):elemF p (f+1)=elemS p (decide (1<=f)) (elemF p f) (elemF p (f-1)):=by
 cases f with
 |zero=>funext i k;simp only[elemF];congr 1
 |succ f=>funext i k;simp only[elemF];congr 1
theorem nA {rec:Nat->Option Nat} {N:Nat} (h:∀ i e,rec i=some e->i<e/\e<=N):∀ {k i e:Nat},i<=N->cR rec k i=some e->i+k<=e/\e<=N
 |0,i,e,hi,he=>by simp[cR] at he;omega
 |k+1,i,e,hi,he=>by
  simp only[cR] at he;split at he
  ·rename_i e' h'
   have h1:=h _ _ h';have:=nA h h1.2 he;omega
  ·cases he
theorem wm {ch:Int->Nat->Option Nat} {N:Nat} (h:∀ k i e,ch k i=some e->i<e/\e<=N):∀ {ks:By} {i e:Nat},i<=N->eJ ch ks i=some e->i+ks.length<=e/\e<=N
 |[],i,e,hi,he=>by simp[eJ] at he;simp;omega
 |k::ks,i,e,hi,he=>by
  simp only[eJ] at he;split at he
  ·rename_i e' h'
   have h1:=h _ _ _ h';have:=wm h h1.2 he
   grind
  ·cases he
theorem nu {ok:Bool} {E0 E1:Nat->Int->Option Nat} (h0:∀ i k e,E0 i k=some e->i<e/\e<=p.length) (h1:∀ i k e,E1 i k=some e->i<e/\e<=p.length) {k:Int} {i e:Nat} (h:dL p ok E0 E1 k i=some e):i<e/\e<=p.length:=by
 unfold dL at h;split at h
 ·split at h
  ·cases h
  ·rename_i y hy
   have hi:i<p.length:=by
    grind
   split at h
   ·have:=nA (λi e=>h1 i k e) aa h
    omega
   ·cases h
 ·exact h0 _ _ _ h
theorem wV {ok:Bool} {E0 E1:Nat->Int->Option Nat} (h0:∀ i k e,E0 i k=some e->i<e/\e<=p.length) (h1:∀ i k e,E1 i k=some e->i<e/\e<=p.length) {k:Int} {i e:Nat} (h:elemS p ok E0 E1 i k=some e):i<e/\e<=p.length:=by
 unfold elemS at h;split at h
 ·cases h
 ·rename_i x hx
  have hi:i<p.length:=by
   grind
  split at h
  ·have:=wm (λk i e h=>nu h0 h1 h) aa h
   omega
  ·cases h
theorem dm {p:List Nd}:∀ {f i:Nat} {k:Int} {e:Nat},elemF p f i k=some e->i<e/\e<=p.length
 |0,_,_,_,h=>by cases h
 |1,i,k,e,h=>wV (λ_ _ _ h=>by cases h) (λ_ _ _ h=>by cases h) h
 |f+2,i,k,e,h=>wV (λi k e h=>dm (f:=f+1) h) (λi k e h=>dm (f:=f) h) h
abbrev BF (o:Option Nat):V:=.tup [.s (.int .i64 ((o.getD 0:Nat):Int)),.s (.bool o.isSome)]
def oh (p:List Nd):Prop:=∀ x∈p,x.str.length<9223372036854775807
theorem sG (h:oh p) (i:Nat):(p.getD i dN).str.length<9223372036854775807:=by
 rw[Z00]
 cases e:p[i]? with
 |none=>simp[dN]
 |some x=>exact h x (Z4i e)
def xB (p:List Nd) (f:Nat):Prop:=∀ (i:Nat) (k d:Int),d=33-(f:Int)->i<=p.length->FQ 172 [al p,nI i,n8 k,nI d] 0 [] (BF (elemF p f i k)) 0 []
def Gm (p:List Nd) (f:Nat):Prop:=∀ (i:Nat) (k d:Int),d=33-(f:Int)->i<=p.length->FQ 225 [al p,nI i,n8 k,nI d] 0 [] (BF (dL p (decide (1<=f)) (elemF p f) (elemF p (f-1)) k i)) 0 []
theorem KI (p:List Nd):xB p 0:=by
 intro i k d hd hi;refine wW Tryz.func172 ?_
 repeat'(first|refine y1 ?_|refine y2 ?_ ?_|refine y4 λh=>?_|refine jk (.inl rfl) rfl ?_ rfl|refine y3 ?_|exact y5|fail)
theorem KH (p:List Nd) (hp:p.length<=2048) (hw:oh p) (f:Nat) (hf:f<=32) (hc:Gm p f):xB p (f+1):=by
 intro i k d hd hi;rw[e9];refine wW Tryz.func172 ?_;by_cases hlt:i<p.length
 ·have hget:p[i]? =some (p.getD i dN):=ae
  unfold elemS;rw[hget];simp only;have hwx:=sG hw i;have hkc:=HB (p.getD i dN);generalize av (p.getD i dN).op (p.getD i dN).kids=kb at*;obtain⟨ks,ok⟩:=kb;simp only at hkc |-;cases ok
  ·
   repeat'(first|refine y1 ?_|refine y2 ?_ ?_|refine y4 λh=>?_|refine bG (Jm _ _) ?_|refine bG (wL (p.getD i dN) _ hwx) ?_|refine an hkc ?_|refine jk (.inl rfl) rfl ?_ rfl|refine y3 ?_|exact y5|fail)
   all_goals simp_all
  ·
   repeat'(first|refine y1 ?_|refine y2 ?_ ?_|refine y4 λh=>?_|refine bG (Jm _ _) ?_|refine bG (wL (p.getD i dN) _ hwx) ?_|refine an hkc ?_|refine jk (.inl rfl) rfl ?_ rfl|exact (show BF none=_ from (congrArg BF (if_neg (by simp_all))).symm)|refine y3 ?_|exact y5|fail)
   ·rw[if_pos ⟨‹bH k _=true›,‹b_ _ k=true›,rfl⟩]
    refine cy (σ:=Nat×Nat) (λx=>[(49,nI x.1),(13,nI x.2)]) (λx=>[]) (λx=>(x.1<=ks.length/\i+1+x.1<=x.2)/\x.2<=p.length/\eJ (dL p (decide (1<=f)) (elemF p f) (elemF p (f-1))) ks (i+1)=eJ (dL p (decide (1<=f)) (elemF p f) (elemF p (f-1))) (ks.drop x.1) x.2) (λx=>ks.length-x.1) (0,i+1) rfl (λ_=>rfl) ⟨⟨Z08 _,Z02 _⟩,hlt,rfl⟩ aP trivial ?_;rintro⟨j,e⟩ ⟨⟨h1,h0⟩,h2,h3⟩;simp only at h1 h2 h3 h0 |-;by_cases hj:j<ks.length
    ·rw[Z0k hj] at h3
     have hkg:ks[j]=ks.getD j 0:=ae;rw[hkg] at h3;simp only[eJ] at h3;have hch:=hc e ((ks.getD j 0).toNat:Int) (d+1) aa h2
     have hle:=λe' (h:dL p (decide (1<=f)) (elemF p f) (elemF p (f-1)) ((ks.getD j 0).toNat:Int) e=some e')=>nu (λi k e h=>dm h) (λi k e h=>dm h) h
     generalize dL p (decide (1<=f)) (elemF p f) (elemF p (f-1)) ((ks.getD j 0).toNat:Int) e=r at*
     cases r with
     |none=>
      simp only at h3;rw[h3]
      repeat'(first|refine y1 ?_|refine y2 ?_ ?_|refine y4 λh=>?_|refine an hch ?_|refine jk (.inl rfl) rfl ?_ rfl|refine y3 ?_|exact y5|fail)
     |some e'=>
      simp only at h3;have:=hle e' rfl
      repeat'(first|refine y1 ?_|refine y2 ?_ ?_|refine y4 λh=>?_|refine an hch ?_|refine dz (j+1,e') ⟨⟨?_,?_⟩,?_,h3⟩ ?_ rfl aP trivial rfl rfl ac|refine y3 ?_|exact y5|fail)
    ·
     have:ks.drop j=[]:=ae;rw[this] at h3;simp only[eJ] at h3;rw[h3]
     repeat'(first|refine y1 ?_|refine y2 ?_ ?_|refine y4 λh=>?_|refine jk (.inl rfl) rfl ?_ rfl|refine y3 ?_|exact y5|fail)
 ·
  have hget:p[i]? =none:=ae;unfold elemS;rw[hget]
  repeat'(first|refine y1 ?_|refine y2 ?_ ?_|refine y4 λh=>?_|refine jk (.inl rfl) rfl ?_ rfl|refine y3 ?_|exact y5|fail)
theorem Ib (p:List Nd) (hp:p.length<=2048) (f:Nat) (hf:f<=32) (h0:xB p f) (h1:1<=f->xB p (f-1)):Gm p f:=by
 intro i k d hd hi;unfold dL;refine wW Tryz.func225 ?_;have hbk:=HM k;have he:=h0 i k d hd hi
 cases hb:dY k with
 |false=>
  rw[hb] at hbk;simp only[Z0l,if_false];generalize elemF p f i k=r at*
  repeat'(first|refine y1 ?_|refine y2 ?_ ?_|refine bG hbk ?_|refine an he ?_|refine jk (.inl rfl) rfl ?_ rfl|refine y3 ?_|exact y5|fail)
 |true=>
  rw[hb] at hbk;simp only[if_true];by_cases hlt:i<p.length
  ·
   have hget:p[i]? =some (p.getD i dN):=ae;rw[hget];simp only
   repeat'(first|refine y1 ?_|refine y2 ?_ ?_|refine y4 λh=>?_|refine bG hbk ?_|refine jk (.inl rfl) rfl ?_ rfl|exact (show BF none=_ from (congrArg BF (if_neg (by simp_all<;>omega))).symm)|refine y3 ?_|exact y5|fail)
   ·have hk0:0<=(p.getD i dN).kids:=aa
    have h1f:1<=f:=aa;have hE:=h1 h1f;have hx:(p.getD i dN).str=[]:=‹_›;rw[if_pos ⟨decide_eq_true h1f,ae,ae,hx,hk0⟩];generalize hK:(p.getD i dN).kids.toNat=K at*;refine cy (σ:=Nat×Nat) (λx=>[(58,nI x.1),(11,nI x.2)]) (λx=>[]) (λx=>(x.1<=K/\i+1+x.1<=x.2)/\x.2<=p.length/\cR (λe=>elemF p (f-1) e k) K (i+1)=cR (λe=>elemF p (f-1) e k) (K-x.1) x.2) (λx=>K-x.1) (0,i+1) rfl (λ_=>rfl) ⟨⟨Z08 _,Z02 _⟩,hlt,rfl⟩ aP trivial ?_;rintro⟨j,e⟩ ⟨⟨g1,g0⟩,g2,g3⟩;simp only at g1 g2 g3 g0 |-;by_cases hj:j<K
    ·rw[show K-j=(K-(j+1))+1 by omega] at g3
     simp only[cR] at g3;have hch:=hE e k (d+1) aa g2
     have hle:=λe' (h:elemF p (f-1) e k=some e')=>dm h
     generalize elemF p (f-1) e k=r at*
     cases r with
     |none=>
      simp only at g3;rw[g3]
      repeat'(first|refine y1 ?_|refine y2 ?_ ?_|refine y4 λh=>?_|refine an hch ?_|refine jk (.inl rfl) rfl ?_ rfl|refine y3 ?_|exact y5|fail)
     |some e'=>
      simp only at g3;have:=hle e' rfl
      repeat'(first|refine y1 ?_|refine y2 ?_ ?_|refine y4 λh=>?_|refine an hch ?_|refine dz (j+1,e') ⟨⟨?_,?_⟩,?_,g3⟩ ?_ rfl aP trivial rfl rfl ac|refine y3 ?_|exact y5|fail)
    ·
     rw[show K-j=0 by omega] at g3;simp only[cR] at g3;rw[g3]
     repeat'(first|refine y1 ?_|refine y2 ?_ ?_|refine y4 λh=>?_|refine jk (.inl rfl) rfl ?_ rfl|refine y3 ?_|exact y5|fail)
  ·
   have hget:p[i]? =none:=ae;rw[hget]
   repeat'(first|refine y1 ?_|refine y2 ?_ ?_|refine y4 λh=>?_|refine bG hbk ?_|refine jk (.inl rfl) rfl ?_ rfl|refine y3 ?_|exact y5|fail)
theorem Fh (p:List Nd) (hp:p.length<=2048) (hw:oh p):∀ f,f<=33->xB p f:=by
 intro f
 induction f using Nat.strongRecOn with
 |_ f ih=>
  intro hf
  cases f with
  |zero=>exact KI p
  |succ f=>exact KH p hp hw f aa (Ib p hp f aa (ih f aa aa) λ_=>ih (f-1) aa aa)
def qR (p:List Nd):Nat->Nat->Bool
 |0,_=>false
 |n+1,i=>if i<p.length then (match elemF p 32 i 68 with|some e=>qR p n e|none=>false) else true
def eR (p:List Nd):Bool:=decide (p.length<=2048)&&qR p (p.length+1) 0
theorem uT (p:List Nd) (hw:oh p):FQ 114 [al p] 0 [] (bV (eR p)) 0 []:=by
 unfold eR;refine wW Tryz.func114 ?_;by_cases hp:p.length<=2048
 ·
  rw[decide_eq_true hp,Z1r]
  repeat'(first|refine y1 ?_|refine y2 ?_ ?_|refine y4 λh=>?_|refine y3 ?_|exact y5|fail)
  generalize hT:qR p (p.length+1) 0=T;refine cy (σ:=Nat×Nat) (λx=>[(3,nI x.2)]) (λx=>[]) (λx=>x.1<=x.2/\x.2<=p.length/\T=qR p (p.length+1-x.1) x.2) (λx=>p.length-x.2) (0,0) rfl (λ_=>rfl) ⟨Z02 _,Z08 _,hT.symm⟩ aP trivial ?_;clear hT;rintro⟨j,i⟩ ⟨h1,h2,h3⟩;simp only at h1 h2 h3 |-;rw[show p.length+1-j=(p.length-j)+1 by omega] at h3;simp only[qR] at h3;by_cases hlt:i<p.length
  ·rw[if_pos hlt] at h3
   have hch:=Fh p hp hw 32 ac i 68 1 ac h2
   have hle:=λe' (h:elemF p 32 i 68=some e')=>dm h
   generalize elemF p 32 i 68=r at*
   cases r with
   |none=>
    simp only at h3
    repeat'(first|refine y1 ?_|refine y2 ?_ ?_|refine y4 λh=>?_|refine an hch ?_|refine cL (.inl rfl) rfl ?_|refine y3 ?_|exact y5|fail)
    grind
   |some e'=>
    simp only at h3;have:=hle e' rfl
    repeat'(first|refine y1 ?_|refine y2 ?_ ?_|refine y4 λh=>?_|refine an hch ?_|refine dz (j+1,e') ⟨?_,?_,?_⟩ ?_ rfl aP trivial rfl rfl ac|refine y3 ?_|exact y5|fail)
    grind
  ·
   rw[if_neg hlt] at h3
   repeat'(first|refine y1 ?_|refine y2 ?_ ?_|refine y4 λh=>?_|refine cL (.inl rfl) rfl ?_|refine y3 ?_|exact y5|fail)
   grind
 ·
  rw[decide_eq_false hp,Z2c]
  repeat'(first|refine y1 ?_|refine y2 ?_ ?_|refine y4 λh=>?_|refine cL (.inl rfl) rfl ?_|refine y3 ?_|exact y5|fail)
end
