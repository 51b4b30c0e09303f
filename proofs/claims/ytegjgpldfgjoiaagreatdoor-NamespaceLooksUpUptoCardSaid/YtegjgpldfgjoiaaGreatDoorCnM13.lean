import Derived.Test.YtegjgpldfgjoiaaGreatDoorCnM12
import Derived.Lib.Bytealg
set_option linter.all false
namespace Go.Proofs.YtegjgpldfgjoiaaGreatDoor
open Go Ab
set_option maxRecDepth 100000
set_option maxHeartbeats 40000000
section
variable {n:Nat}
theorem xz (c:UInt8):((c.toNat:Int)).toNat.toUInt8=c:=an
theorem pN (s:By) (c:UInt8):XT Tryz.prog 154 [sV s,n8 (c.toNat:Int)] (nI ((s.count c:Nat):Int)):=by
 intro φ xs w hx
 match xs,hx with
 |[x,y],⟨h1,h2,_⟩=>
  have h1:x=.string ⟨s.toArray⟩:=h1;have h2:y=.int .u8 (c.toNat:Int):=h2;subst h1;subst h2;refine⟨.int .i64 ((s.count c:Nat):Int),?_,rfl⟩;rw[run_callFunc_extern (e:=Extern.BytealgCount.count) Tryz.func154 (by kernel_rfl) rfl (by rfl) (by rfl)];rw[show [Value.string ⟨s.toArray⟩,Value.int IntKind.u8 (c.toNat:Int)].toArray= #[.string ⟨s.toArray⟩,.int .u8 (c.toNat:Int)] from rfl,Go.Lib.run_countString,xz];rfl
theorem uF (s:By) (c:UInt8):XT Tryz.prog 261 [sV s,n8 (c.toNat:Int)] (nI (Go.Lib.indexByte s c)):=by
 intro φ xs w hx
 match xs,hx with
 |[x,y],⟨h1,h2,_⟩=>
  have h1:x=.string ⟨s.toArray⟩:=h1;have h2:y=.int .u8 (c.toNat:Int):=h2;subst h1;subst h2;refine⟨.int .i64 (Go.Lib.indexByte s c),?_,rfl⟩;rw[run_callFunc_extern (e:=Extern.BytealgIndexByte.indexByte) Tryz.func261 (by kernel_rfl) rfl (by rfl) (by rfl)];rw[show [Value.string ⟨s.toArray⟩,Value.int IntKind.u8 (c.toNat:Int)].toArray= #[.string ⟨s.toArray⟩,.int .u8 (c.toNat:Int)] from rfl,Go.Lib.run_indexByteString,xz];rfl
theorem sm (s:By) (c:UInt8):FC Tryz.prog 91 [sV s,sV [c]] 0 [] (nI ((s.count c:Nat):Int)) 0 []:=by
 refine wW Tryz.func91 ?_
 repeat'(first|exact y0|refine y1 ?_|refine y2 ?_ ?_|refine y4 λh=>?_|(refine wC ?_;first|refine CallG.xt (pN _ _) rfl rfl ?_|fail)|refine Fin.int (.inl rfl) rfl ?_|refine y3 ?_|exact y5|fail)
 all_goals first
  |rfl
  |(simp at*;done)
theorem uG (s:By) (c:UInt8):FC Tryz.prog 244 [sV s,n8 (c.toNat:Int)] 0 [] (nI (Go.Lib.indexByte s c)) 0 []:=by
 refine wW Tryz.func244 ?_
 repeat'(first|exact y0|refine y1 ?_|refine y2 ?_ ?_|refine y4 λh=>?_|(refine wC ?_;first|refine CallG.xt (uF _ _) rfl rfl ?_|fail)|refine Fin.int (.inl rfl) rfl ?_|refine y3 ?_|exact y5|fail)
 all_goals rfl
theorem Ct (s:By) (c:UInt8):FC Tryz.prog 211 [sV s,sV [c]] 0 [] (nI (Go.Lib.indexByte s c)) 0 []:=by
 refine wW Tryz.func211 ?_
 repeat'(first|exact y0|refine y1 ?_|refine y2 ?_ ?_|(refine y4 λh=>?_;try(first|exact absurd rfl h|exact y6))|refine wX 244 (pu (uG _ _) ?_)|refine Fin.int (.inl rfl) rfl ?_|refine y3 ?_|exact y5|fail)
 all_goals first
  |rfl
  |(exfalso;simp at*;done)
  |(subst_vars;simp[Go.Lib.indexByte];done)
  |(simp;done)
theorem Fu (s:By) (c:UInt8):FC Tryz.prog 155 [sV s,sV [c]] 0 [] (nI (Go.Lib.indexByte s c)) 0 []:=by
 refine wW Tryz.func155 ?_
 repeat'(first|exact y0|refine y1 ?_|refine y2 ?_ ?_|refine y4 λh=>?_|refine wX 211 (pu (Ct _ _) ?_)|refine Fin.int (.inl rfl) rfl ?_|refine y3 ?_|exact y5|fail)
 all_goals rfl
def aD (c:UInt8):By->List By
 |[]=>[[]]
 |b::l=>if b=c then []::aD c l else match aD c l with|h::t=>(b::h)::t|[]=>[[b]]
theorem gW (c:UInt8):∀ s:By,(aD c s).length=s.count c+1
 |[]=>rfl
 |b::l=>by
  have ih:=gW c l;by_cases h:b=c
  ·simp only[aD,if_pos h,Z04,ih];rw[h,List.count_cons_self]
  ·simp only[aD,if_neg h]
   rw[Z5u h]
   cases e:aD c l with
   |nil=>rw[e] at ih;simp at ih
   |cons x t=>rw[e] at ih;simpa using ih
theorem lz (c:UInt8):∀ s:By,Go.Lib.indexByte s c= -1->aD c s=[s]
 |[],_=>rfl
 |b::l,h=>by
  unfold Go.Lib.indexByte at h;split at h
  ·cases h
  ·rename_i hb
   have hb: ¬b=c:=by simpa using hb
   have h1:=Go.Lib.indexByte_ge l c;split at h
   ·rename_i he
    have he:Go.Lib.indexByte l c= -1:=by simpa using he
    simp only[aD,if_neg hb,lz c l he]
   ·rename_i he
    have he: ¬Go.Lib.indexByte l c= -1:=by simpa using he
    omega
theorem pZ (c:UInt8):∀ (s:By) (k:Nat),Go.Lib.indexByte s c=(k:Int)->k<s.length/\aD c s=s.take k::aD c (s.drop (k+1))/\s.count c=(s.drop (k+1)).count c+1
 |[],k,h=>by unfold Go.Lib.indexByte at h;omega
 |b::l,k,h=>by
  unfold Go.Lib.indexByte at h;split at h
  ·rename_i hb
   have hb:b=c:=by simpa using hb
   obtain rfl:k=0:=aa;subst hb;simp[aD]
  ·rename_i hb
   have hb: ¬b=c:=by simpa using hb
   split at h
   ·exfalso;omega
   ·have h1:=Go.Lib.indexByte_ge l c
    cases k with
    |zero=>
     rename_i he
     have he: ¬Go.Lib.indexByte l c= -1:=by simpa using he
     omega
    |succ k=>
     obtain⟨i1,i2,i3⟩:=pZ c l k aa;refine⟨by simp;omega,?_,?_⟩
     ·simp only[aD,if_neg hb,i2,List.take_succ_cons,Z59]
     ·rw[Z5u hb,i3];simp
theorem iO (c:UInt8):∀ s:By,s.count c=0->Go.Lib.indexByte s c= -1
 |[],_=>rfl
 |b::l,h=>by
  have hb: ¬b=c:=λe=>by rw[e,List.count_cons_self] at h;omega
  rw[Z5u hb] at h;unfold Go.Lib.indexByte;rw[if_neg (by simpa using hb),iO c l h];rfl
theorem Dk (c:UInt8) (s:By):s.count c<=s.length:=List.count_le_length
def rowS (n:Nat) (done:List By):List S:=done.map S.str++List.replicate (n-done.length) (.str [])
theorem tF {done:List By} (h:done.length<=n):(rowS n done).length=n:=by simp[rowS];omega
theorem tE {done:List By} (x:By) (h:done.length<n):bR (rowS n done) done.length [.str x]=rowS n (done++[x]):=by
 simp only[bR,rowS];rw[Z4y _ _ an];simp only[Z0z,Z3r,Z0d,Z13,Z3d,Z14,Z03,Z0n];rw[show n-done.length=(n-(done.length+1))+1 by omega,Z16,Z3k];rfl
theorem Bk {l:List By} {k j:Nat} {x:S} (hk:k<l.length) (h:([S.str (l.getD k [])])[j]? =some x):(rowS n l)[k*1+j]? =some x/\bE x=true:=by
 cases j with
 |succ j=>simp at h
 |zero=>
  simp only[Z11,Z06] at h;subst h;refine⟨?_,rfl⟩;simp only[rowS,Z1p,Z0p];rw[Z0x (by simpa using hk)];simp[Z00,hk]
theorem wB (s:By) (c:UInt8) (hl:s.length<9223372036854775807) (hc:s.count c<1000000):FC Tryz.prog 156 [sV s,sV [c],nI 0,nI (-1)] 0 [] (.s (aE (aD c s))) 0 []:=by
 have hcl:=Dk c s;generalize hn:s.count c=n at*;refine wW Tryz.func156 ?_;have hcc:=sm s c;rw[hn] at hcc
 repeat'(first|exact y0|refine y1 ?_|refine y2 ?_ ?_|refine y4 λh=>?_|refine wX 91 (pu hcc ?_)|refine y3 ?_|exact y5|fail)
 refine RegX.opA [.num ((n:Int)+1)] rfl rfl ⟨trivial,?_⟩ ?_
 ·show (if ((s.length:Int)+1)<(n:Int)+1 then (s.length:Int)+1 else (n:Int)+1)=_
  rw[if_neg aa]
 repeat'(first|exact y0|refine y1 ?_|refine y2 ?_ ?_|refine y4 λh=>?_|refine y3 ?_|exact y5|fail)
 refine RegX.opA [.idx (n+1),.idx (n+1)] rfl rfl ⟨rfl,rfl,Z02 _,?_,aa⟩ ?_
 ·rw[show (Tryz.prog.types[9]).bytes=16 by kernel_rfl];omega
 repeat'(first|exact y0|refine y1 ?_|refine y2 ?_ ?_|refine y4 λh=>?_|refine y3 ?_|exact y5|fail)
 refine Ex.inv (σ:=List By×By) (λx=>[(0,sV x.2),(10,nI x.1.length)]) (λx=>[(0,some {cells:=rowS (n+1) x.1,ty:=9,sym:=true,flat:=true})]) (λx=>aD c s=x.1++aD c x.2/\x.1.length+x.2.count c=n/\x.2.length<=s.length) (λx=>n-x.1.length) ([],s) rfl (λ_=>rfl) ⟨rfl,by simpa using hn,Z02 _⟩ aV ⟨rfl,trivial⟩ ?_;rintro⟨done,rem⟩ ⟨h1,h2,h3⟩;simp only at h1 h2 h3 |-;by_cases hlt:done.length<n
 ·obtain⟨k,hk⟩:∃ k:Nat,Go.Lib.indexByte rem c=(k:Int):=by
   have hge:=Go.Lib.indexByte_ge rem c
   have:Go.Lib.indexByte rem c≠ -1:=λe=>by
    have:=gW c rem;rw[lz c rem e] at this;simp at this;omega
   exact⟨(Go.Lib.indexByte rem c).toNat,aa⟩
  obtain⟨k1,k2,k3⟩:=pZ c rem k hk;have hidx:=Fu rem c;rw[hk] at hidx
  repeat'(first|exact y0|refine y1 ?_|refine y2 ?_ ?_|refine y4 λh=>?_|refine wX 155 (pu hidx ?_)|refine y3 ?_|exact y5|fail)
  refine RegX.opA [.cells (rowS (n+1) (done++[rem.take k]))] rfl rfl ⟨?_,?_⟩ ?_
  ·rw[tF aa];show done.length+1<=n+1;omega
  ·exact (tE _ aa).symm
  repeat'(first|exact y0|refine y1 ?_|refine y2 ?_ ?_|refine y4 λh=>?_|refine y3 ?_|exact y5|fail)
  ·
   refine ae ?_ ?_
   ·simp;omega
   ·simp;omega
  ·simp;omega
  ·refine LoopR.same (done++[rem.take k],rem.drop (k+1)) ⟨?_,?_,?_⟩ ?_ rfl ⟨VLe.refl _,VLe.of_eq ?_,trivial⟩ ⟨rfl,trivial⟩ rfl rfl ac
   ·simp only[h1,k2,Z14,Z35]
   ·simp only[Z03,Z0n];omega
   ·simp only[Z1u];omega
   ·simp only[Z03,Z0n];omega
   ·simp only[Z03,Z0n];rfl
 ·
  have hdn:done.length=n:=aa;have hno:Go.Lib.indexByte rem c= -1:=iO c rem aa
  have hfin:aD c s=done++[rem]:=by rw[h1,lz c rem hno]
  repeat'(first|exact y0|refine y1 ?_|refine y2 ?_ ?_|refine y4 λh=>?_|refine y3 ?_|exact y5|fail)
  refine RegX.opA [.cells (rowS (n+1) (done++[rem]))] rfl rfl ⟨?_,?_⟩ ?_
  ·rw[tF aa];show done.length+1<=n+1;omega
  ·exact (tE _ aa).symm
  repeat'(first|exact y0|refine y1 ?_|refine y2 ?_ ?_|refine y4 λh=>?_|refine y3 ?_|exact y5|fail)
  refine RegX.opA [.idx (done.length+1)] rfl rfl ⟨⟨rfl,?_⟩,trivial⟩ ?_
  ·show done.length+1<=n+1;omega
  repeat'(first|exact y0|refine y1 ?_|refine y2 ?_ ?_|refine y4 λh=>?_|refine Ex.fz 8 (λk=>[.str ((aD c s).getD k [])]) 1 rfl rfl rfl rfl (λ_ _=>rfl) ?_ rfl rfl ?_|refine Fin.le (.inl rfl) rfl ?_ rfl|refine y3 ?_|exact y5|fail)
  ·intro k j x hk hx
   rw[hfin] at hx;exact Bk (by simp only[Z03,Z0n];exact hk) hx
  ·have:(aD c s).length=done.length+1:=by rw[hfin];simp
   unfold aE;rw[this];exact VLe.refl _
theorem xI (s:By) (c:UInt8) (hl:s.length<9223372036854775807) (hc:s.count c<1000000):FC Tryz.prog 92 [sV s,sV [c]] 0 [] (.s (aE (aD c s))) 0 []:=by
 refine wW Tryz.func92 ?_
 repeat'(first|exact y0|refine y1 ?_|refine y2 ?_ ?_|refine y4 λh=>?_|refine wX 156 (pu (wB s c hl hc) ?_)|refine Fin.plain (.inl rfl) rfl ?_ rfl|refine y3 ?_|exact y5|fail)
 all_goals rfl
end
end Go.Proofs.YtegjgpldfgjoiaaGreatDoor
