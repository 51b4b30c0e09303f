import Derived.Test.YtphdhedhhlfepaaGreatDoorCzC12
import Derived.Test.YtphdhedhhlfepaaGreatDoorCzC08
set_option linter.unusedSimpArgs false
set_option linter.unusedVariables false
namespace Go.Proofs.YtphdhedhhlfepaaGreatDoor
namespace Ab
open Go
set_option maxRecDepth 100000
def kBnd (x:Option V) (d:Nat):Option Nat:=
 match x with
 |none=>some d
 |some (.s (.int _ z))=>natOf z
 |_=>none
theorem kBnd_some {v:V} {d k:Nat} (h:kBnd (some v) d=some k):∃ kk,v=.s (.int kk (k:Int)):=by
 unfold kBnd at h;split at h
 ·rename_i hv;cases hv
 ·rename_i kk z hv;cases hv;exact⟨kk,by rw[natOf_eq h]⟩
 ·cases h
theorem kBnd_none {d k:Nat} (h:kBnd none d=some k):k=d:=by simp[kBnd] at h;exact h.symm
def kSliceStr (l:List UInt8) (lo hi:Option V):Option S:=
 match kBnd hi l.length,kBnd lo 0 with
 |some h,some k=>
  match Nat.ble h l.length&&Nat.ble k h with
  |true=>
   match hi,lo with
   |none,none=>some (.str l)
   |none,some _=>some (.str (l.drop k))
   |some _,none=>some (.str (l.take h))
   |some _,some _=>some (.str ((l.take h).drop k))
  |false=>none
 |_,_=>none
theorem kSliceStr_ok {n:Nat} {l:List UInt8} {lo hi:Option V} {s:S} (h:kSliceStr l lo hi=some s):∃ (ks:List Nat) (as:List Ans) (C:Prop),aSliceStr n l lo hi (ks.map .idx)=some ⟨⟨[],.s s,[],n⟩,as,C⟩∧C:=by
 unfold kSliceStr at h;split at h
 ·rename_i hh k e1 e2
  split at h
  ·rename_i hc
   simp only[Bool.and_eq_true] at hc;have c1:=Nat.le_of_ble_eq_true hc.1;have c2:=Nat.le_of_ble_eq_true hc.2;split at h
   ·cases h
    have:=kBnd_none e1;have:=kBnd_none e2;exact⟨[],[],_,rfl,trivial,trivial⟩
   ·rename_i v
    cases h;have:=kBnd_none e1;obtain⟨kk,rfl⟩:=kBnd_some e2;subst this;exact⟨[k],[],_,rfl,trivial,rfl,c2⟩
   ·cases h
    have:=kBnd_none e2;obtain⟨kk,rfl⟩:=kBnd_some e1;exact⟨[hh],[],_,rfl,⟨rfl,c1⟩,trivial⟩
   ·cases h
    obtain⟨kk,rfl⟩:=kBnd_some e1;obtain⟨kk',rfl⟩:=kBnd_some e2;exact⟨[hh,k],[],_,rfl,⟨rfl,c1⟩,rfl,c2⟩
  ·cases h
 ·cases h
def kSliceSl (i o len:Nat) (cap:Option Nat) (sz:Nat) (lo hi:Option V):Option S:=
 match kBnd hi len,kBnd lo 0 with
 |some h,some k=>
  match Nat.ble h (topOf cap len)&&Nat.ble k h with
  |true=>
   match lo with
   |none=>some (.slc (some (i,o)) h cap)
   |some _=>
    match (match cap with|some c=>Nat.blt k c|none=>Nat.blt k h) with
    |true=>some (.slc (some (i,plus o (times k sz))) (h-k) (subCap cap k))
    |false=>none
  |false=>none
 |_,_=>none
theorem kSliceSl_ok {n i o len:Nat} {cap:Option Nat} {sz:Nat} {lo hi:Option V} {s:S} (h:kSliceSl i o len cap sz lo hi=some s):∃ (ks:List Nat) (as:List Ans) (C:Prop),aSliceSl n i o len cap sz lo hi (ks.map .idx)=some ⟨⟨[],.s s,[],n⟩,as,C⟩∧C:=by
 unfold kSliceSl at h;split at h
 ·rename_i hh k e1 e2
  split at h
  ·rename_i hc
   simp only[Bool.and_eq_true] at hc;have c1:=Nat.le_of_ble_eq_true hc.1;have c2:=Nat.le_of_ble_eq_true hc.2;split at h
   ·cases h
    have h2:=kBnd_none e2
    cases hi with
    |none=>have:=kBnd_none e1;subst this;exact⟨[],[],_,rfl,trivial,trivial⟩
    |some v=>
     obtain⟨kk,rfl⟩:=kBnd_some e1;exact⟨[hh],[],_,rfl,⟨rfl,c1⟩,trivial⟩
   ·rename_i v
    split at h
    ·rename_i hl
     cases h
     have hlt:ltCap cap k hh:=by
      cases cap with
      |some c=>exact blt_iff.1 hl
      |none=>exact blt_iff.1 hl
     obtain⟨kk',rfl⟩:=kBnd_some e2
     cases hi with
     |none=>have:=kBnd_none e1;subst this;exact⟨[k,hh-k],[],_,rfl,⟨trivial,rfl,c2⟩,rfl,hlt⟩
     |some u=>
      obtain⟨kk,rfl⟩:=kBnd_some e1;exact⟨[hh,k,hh-k],[],_,rfl,⟨⟨rfl,c1⟩,rfl,c2⟩,rfl,hlt⟩
    ·cases h
  ·cases h
 ·cases h
def kFront (P:Program) (t:TypeId) (i g len:Nat) (lo hi:Option V):Option S:=
 match P.underlying t,kBnd hi len,kBnd lo 0 with
 |some (.slice e),some h,some 0=>match elemSz P e,Nat.ble h len with|some _,true=>some (.sla i g h)|_,_=>none
 |_,_,_=>none
theorem kBnd_bdV {x:Option V} {d k:Nat} (h:kBnd x d=some k):∃ A,bdV x k d=some A∧A:=by
 cases x with
 |none=>exact⟨k=d,rfl,kBnd_none h⟩
 |some v=>obtain⟨kk,rfl⟩:=kBnd_some h;exact⟨_,rfl,rfl⟩
theorem kFront_ok {P:Program} {env:List V} {n:Nat} {L:Hp} {t:TypeId} {x:Operand} {lo hi:Option Operand} {i g len:Nat} {s:S} {o:Oper} (ho:o.op=.slice t x lo hi none) (hx:ev env x=.s (.sla i g len))
 (h:kFront P t i g len (lo.map (ev env)) (hi.map (ev env))=some s):OutR P o env n L ⟨[],.s s,[],n⟩:=by
 unfold kFront at h;split at h
 ·rename_i e hh hty e1 e2
  split at h
  ·rename_i sz hsz hle
   cases h;have hle:=Nat.le_of_ble_eq_true hle;obtain⟨A,hA,cA⟩:=kBnd_bdV e2;obtain⟨B,hB,cB⟩:=kBnd_bdV e1;refine⟨OpL.light fun φ a w hop hg=>?_,Nat.le_refl _⟩;have g1:=hop x (by simp[ho,Op.operands]);rw[hx] at g1;obtain⟨b,c,hb,hgc,hv,hlc⟩:=g1;have r1:=bdV_ok (P:=P) (w:=w) (top:=hh) (code:=.sliceB) (fun y hy=>hop y (by subst hy;simp[ho,Op.operands])) hA cA (Nat.zero_le _);have r2:=bdV_ok (P:=P) (w:=w) (top:=c) (code:=.sliceAcap) (fun y hy=>hop y (by subst hy;simp[ho,Op.operands])) hB cB (by omega)
   have hsb:(Instr.sliceBounds true len c (lo.map a.eval) (hi.map a.eval) none).run P w=.ok (0,hh,c) w:=by
    unfold Instr.sliceBounds
    cases hi<;>cases lo<;>simp_all
   refine⟨.slice (some ⟨b.1,b.2,none⟩) hh c,?_,b,c,hb,hgc,rfl,by omega⟩;simp only[execOp,ho,hv,Option.map_none,Instr.sliceAt,Instr.slice,Sem.run_bind,run_underlying hty,Result.andThen_ok,hsb,elemSz_ok hsz,Option.map_some,addr_add,Sem.run_pure]
   split<;>simp
  ·cases h
 ·cases h
def kNilSl (P:Program) (t:TypeId) (lo hi:Option V):Bool:=
 match P.underlying t,kBnd hi 0,kBnd lo 0 with
 |some (.slice e),some 0,some 0=>(elemSz P e).isSome
 |_,_,_=>false
theorem kNilSl_ok {P:Program} {env:List V} {n:Nat} {L:Hp} {t:TypeId} {x:Operand} {lo hi:Option Operand} {len:Nat} {cap:Option Nat} {o:Oper} (ho:o.op=.slice t x lo hi none) (hx:ev env x=.s (.slc none len cap))
 (h:kNilSl P t (lo.map (ev env)) (hi.map (ev env))=true):OutR P o env n L ⟨[],.s (.slc none 0 (some 0)),[],n⟩:=by
 unfold kNilSl at h;split at h
 ·rename_i e hty e1 e2
  cases hsz:elemSz P e with
  |none=>rw[hsz] at h;cases h
  |some sz=>
  obtain⟨A,hA,cA⟩:=kBnd_bdV e2;obtain⟨B,hB,cB⟩:=kBnd_bdV e1;refine⟨OpL.light fun φ a w hop hg=>?_,Nat.le_refl _⟩;have g1:=hop x (by simp[ho,Op.operands]);rw[hx] at g1;obtain⟨_,_,hv⟩:=g1;have r1:=bdV_ok (P:=P) (w:=w) (top:=0) (code:=.sliceB) (fun y hy=>hop y (by subst hy;simp[ho,Op.operands])) hA cA (Nat.zero_le _);have r2:=bdV_ok (P:=P) (w:=w) (top:=0) (code:=.sliceAcap) (fun y hy=>hop y (by subst hy;simp[ho,Op.operands])) hB cB (by omega)
  have hsb:(Instr.sliceBounds true 0 0 (lo.map a.eval) (hi.map a.eval) none).run P w=.ok (0,0,0) w:=by
   unfold Instr.sliceBounds
   cases hi<;>cases lo<;>simp_all
  refine⟨.slice none 0 0,?_,rfl,rfl,rfl⟩;simp only[execOp,ho,hv,Option.map_none,Instr.sliceAt,Instr.slice,Sem.run_bind,run_underlying hty,Result.andThen_ok,hsb,elemSz_ok hsz,Option.map_some,addr_add,Sem.run_pure];simp
 ·cases h
def kSlice (P:Program) (n:Nat) (t:TypeId) (x:V) (lo hi mx:Option V):Option S:=
 match mx with
 |some _=>none
 |none=>
  match x with
  | .s (.str l)=>match P.underlying t with|some .string=>kSliceStr l lo hi|_=>none
  | .s (.sla i g len)=>
    match kFront P t i g len lo hi with
    |some s=>some s
    |none=>match P.underlying t with|some (.slice e)=>(match elemSz P e with|some sz=>kSliceSl i 0 len none sz lo hi|none=>none)|_=>none
  | .s (.slc (some (i,o)) len cap)=>match P.underlying t with|some (.slice e)=>(match elemSz P e with|some sz=>kSliceSl i o len cap sz lo hi|none=>none)|_=>none
  | .s (.slc none len cap)=>match kNilSl P t lo hi with|true=>some (.slc none 0 (some 0))|false=>none
  |_=>none
theorem kBnd_wk (x:Option V) (d:Nat):kBnd (x.map wkV) d=kBnd x d:=by
 cases x with
 |none=>rfl
 |some v=>cases v with
  |s x=>cases x<;>rfl
  |_=>rfl
theorem kSlice_ok {P:Program} {env:List V} {n:Nat} {L:Hp} {t:TypeId} {x:Operand} {lo hi mx:Option Operand} {s:S} {o:Oper} (ho:o.op=.slice t x lo hi mx)
 (h:kSlice P n t (ev env x) (lo.map (ev env)) (hi.map (ev env)) (mx.map (ev env))=some s):OutR P o env n L ⟨[],.s s,[],n⟩:=by
 have hmx:mx=none:=by
  cases mx with
  |none=>rfl
  |some _=>simp[kSlice] at h
 subst hmx
 have wkb:∀ (y:Option Operand),(y.map fun z=>wkV (ev env z))=(y.map (ev env)).map wkV:=fun y=>by cases y<;>rfl
 have go:∀ (ks:List Nat) (as:List Ans) (C:Prop),aSlice P n t (wkV (ev env x)) (lo.map fun y=>wkV (ev env y)) (hi.map fun y=>wkV (ev env y)) none (ks.map .idx)=some ⟨⟨[],.s s,[],n⟩,as,C⟩→C→OutR P o env n L ⟨[],.s s,[],n⟩:=by
  intro ks as C hs hC;refine OutR.of (ans:=ks.map .idx) (as:=as) (C:=C) ?_ hC;simp only[aop,ho,Option.map_none]
  cases ks<;>exact hs
 simp only[kSlice,Option.map_none] at h
 have slc:∀ (i o' len:Nat) (cap:Option Nat) (e:TypeId) (sz:Nat),wkV (ev env x)=.s (.slc (some (i,o')) len cap)→P.underlying t=some (.slice e)→elemSz P e=some sz→kSliceSl i o' len cap sz (lo.map (ev env)) (hi.map (ev env))=some s→OutR P o env n L ⟨[],.s s,[],n⟩:=by
  intro i o' len cap e sz hx hty hsz hk
  have hk':kSliceSl i o' len cap sz ((lo.map (ev env)).map wkV) ((hi.map (ev env)).map wkV)=some s:=by
   unfold kSliceSl at hk ⊢;rw[kBnd_wk,kBnd_wk]
   cases hlo:lo.map (ev env)<;>rw[hlo] at hk<;>exact hk
  obtain⟨ks,as,C,h1,h2⟩:=kSliceSl_ok (n:=n) hk';exact go ks as C (by simp only[aSlice,hty,hx,hsz,wkb];exact h1) h2
 split at h
 ·rename_i l hx
  split at h
  ·rename_i hty
   have hk':kSliceStr l ((lo.map (ev env)).map wkV) ((hi.map (ev env)).map wkV)=some s:=by
    unfold kSliceStr at h ⊢;rw[kBnd_wk,kBnd_wk]
    cases hlo:lo.map (ev env)<;>cases hhi:hi.map (ev env)<;>rw[hlo,hhi] at h<;>exact h
   obtain⟨ks,as,C,h1,h2⟩:=kSliceStr_ok (n:=n) hk';exact go ks as C (by rw[show wkV (ev env x)=.s (.str l) by rw[hx];rfl];simp only[aSlice,hty,wkb];exact h1) h2
  ·cases h
 ·rename_i i g len hx
  split at h
  ·rename_i s' hf
   cases h;exact kFront_ok ho hx hf
  ·split at h
   ·rename_i e hty
    split at h
    ·rename_i sz hsz
     exact slc i 0 len none e sz (by rw[hx];rfl) hty hsz h
    ·cases h
   ·cases h
 ·rename_i i o' len cap hx
  split at h
  ·rename_i e hty
   split at h
   ·rename_i sz hsz
    exact slc i o' len cap e sz (by rw[hx];rfl) hty hsz h
   ·cases h
  ·cases h
 ·rename_i len cap hx
  split at h
  ·rename_i hn
   cases h;exact kNilSl_ok ho hx hn
  ·cases h
 ·cases h
def kIdx (P:Program) (t:TypeId) (x ix:V):Option S:=
 match ix with
 | .s (.int _ z)=>
   match natOf z with
   |some k=>
    match P.underlying t with
    |some (.slice e)=>
     match x,elemSz P e with
     | .s (.slc (some (i,o)) len _),some sz=>match Nat.blt k len with|true=>some (.ptr (some (i,plus o (times k sz))))|false=>none
     | .s (.sla i _ len),some sz=>match Nat.blt k len with|true=>some (.ptr (some (i,times k sz)))|false=>none
     |_,_=>none
    |some (.array len e)=>
     match x,elemSz P e with
     | .s (.ptr (some (i,o))),some sz=>match Nat.blt k len with|true=>some (.ptr (some (i,plus o (times k sz))))|false=>none
     | .s (.gp g o),some sz=>match Nat.blt k len with|true=>some (.gp g (plus o (times k sz)))|false=>none
     |_,_=>none
    |_=>none
   |none=>none
 |_=>none
theorem kIdx_ok {P:Program} {env:List V} {n:Nat} {L:Hp} {t:TypeId} {x ix:Operand} {s:S} {o:Oper} (ho:o.op=.indexAddr t x ix) (h:kIdx P t (ev env x) (ev env ix)=some s):OutR P o env n L ⟨[],.s s,[],n⟩:=by
 unfold kIdx at h;split at h
 ·rename_i kk z hix
  split at h
  ·rename_i k hk
   have hz:=natOf_eq hk;subst hz;split at h
   ·rename_i e hty
    split at h
    ·rename_i i off len c sz hx hsz
     split at h
     ·rename_i hlt
      cases h;have hlt:=blt_iff.1 hlt;refine OutR.of (ans:=[]) (as:=[]) (C:=0≤(k:Int)∧(k:Int)<(len:Int)) ?_ ⟨by omega,by omega⟩;simp only[aop,ho,aIndexAddr,hix,hx,wkV,wkS,hty,hsz,idxOf,lt_eq];simp
     ·cases h
    ·rename_i i g len sz hx hsz
     split at h
     ·rename_i hlt
      cases h;have hlt:=blt_iff.1 hlt;refine OutR.of (ans:=[]) (as:=[]) (C:=0≤(k:Int)∧(k:Int)<(len:Int)) ?_ ⟨by omega,by omega⟩;simp only[aop,ho,aIndexAddr,hix,hx,wkV,wkS,hty,hsz,idxOf,lt_eq,plus_eq,Nat.zero_add];simp
     ·cases h
    ·cases h
   ·rename_i len e hty
    split at h
    ·rename_i i off sz hx hsz
     split at h
     ·rename_i hlt
      cases h;have hlt:=blt_iff.1 hlt;refine OutR.of (ans:=[]) (as:=[]) (C:=0≤(k:Int)∧(k:Int)<(len:Int)) ?_ ⟨by omega,by omega⟩;simp only[aop,ho,aIndexAddr,hix,hx,wkV,wkS,hty,hsz,idxOf,lt_eq];simp
     ·cases h
    ·rename_i g off sz hx hsz
     split at h
     ·rename_i hlt
      cases h;have hlt:=blt_iff.1 hlt;refine⟨OpL.light fun φ a w hop _=>?_,Nat.le_refl _⟩;have g1:=hop x (by simp[ho,Op.operands]);have g2:=hop ix (by simp[ho,Op.operands]);rw[hx] at g1;rw[hix] at g2;simp only[Vr,Sr] at g1 g2;refine⟨.pointer (some ⟨g,plus off (times k sz),none⟩),?_,rfl⟩;simp only[execOp,ho,g1,g2,Instr.indexAt,Instr.sureAddr,asIntOf,Sem.run_bind,Sem.run_pure,run_underlying hty,Result.andThen_ok,elemSz_ok hsz,addr_add,plus_eq,times_eq];rw[if_pos ⟨by omega,by omega⟩];simp[elemSz_ok hsz,addr_add]
     ·cases h
    ·cases h
   ·cases h
  ·cases h
 ·cases h
def kIndex (P:Program) (t:TypeId) (x ix:V):Option S:=
 match x,ix with
 | .s (.str l),.s (.int _ z)=>
   match natOf z,P.underlying t with
   |some k,some .string=>match l[k]? with|some b=>some (.int .u8 (Int.ofNat b.toNat))|none=>none
   |_,_=>none
 |_,_=>none
theorem kIndex_ok {P:Program} {env:List V} {n:Nat} {L:Hp} {t:TypeId} {x ix:Operand} {s:S} {o:Oper} (ho:o.op=.index t x ix) (h:kIndex P t (ev env x) (ev env ix)=some s):OutR P o env n L ⟨[],.s s,[],n⟩:=by
 unfold kIndex at h;split at h
 ·rename_i l kk z hx hix
  split at h
  ·rename_i k hk hty
   have hz:=natOf_eq hk;subst hz;split at h
   ·rename_i b hb
    cases h
    have hlt:k<l.length:=by
     rcases Nat.lt_or_ge k l.length with h|h
     ·exact h
     ·simp[List.getElem?_eq_none h] at hb
    refine OutR.of (ans:=[]) (as:=[]) (C:=0≤(k:Int)∧(k:Int)<(l.length:Int)) ?_ ⟨by omega,by omega⟩
    have hg:l.getD k 0=b:=by simp[List.getD_eq_getElem?_getD,hb]
    simp only[aop,ho,aIndex,hix,hx,hty,idxOf,lt_eq,Int.toNat_natCast,hg];rfl
   ·cases h
  ·cases h
 ·cases h
def kLoad (P:Program) (n:Nat) (L:Hp) (t:TypeId) (x:V):Option R:=
 match x with
 | .s (.ptr (some (i,o)))=>
   match lk L i,tyS P t with
   |some bl,some (ag,sz)=>match ldAt ag sz bl o with|some v=>some ⟨[i],v,[],n⟩|none=>none
   |_,_=>none
 | .s (.gp g o)=>
   match GS g,tyS P t with
   |some cs,some (ag,sz)=>match fldAt ag sz cs o with|some v=>some ⟨[],v,[],n⟩|none=>none
   |_,_=>none
 |_=>none
theorem kLoad_ok {P:Program} {env:List V} {n:Nat} {L:Hp} {t:TypeId} {x:Operand} {r:R} {o:Oper} (ho:o.op=.load t x) (h:kLoad P n L t (ev env x)=some r):OutR P o env n L r:=by
 unfold kLoad at h;split at h
 ·rename_i i off hx
  split at h
  ·rename_i bl ag sz hl ht
   split at h
   ·rename_i v hld
    cases h;refine⟨OpL.light fun φ a w hop hg=>?_,Nat.le_refl _⟩;have g1:=hop x (by simp[ho,Op.operands]);rw[hx] at g1;obtain⟨b,hb,hv⟩:=g1;obtain⟨b',hb',hat⟩:=hg.hr i bl (by rw[lk_res];simp[hl]);rw[hb] at hb';cases hb';obtain⟨y,hy,hr⟩:=run_loadVar hat ht hld;exact⟨y,by simp only[execOp,ho,hv,Instr.loadAt,Instr.sureAddr,Sem.run_bind,Sem.run_pure,Result.andThen_ok,hy],hr⟩
   ·cases h
  ·cases h
 ·rename_i g off hx
  split at h
  ·rename_i cs ag sz hcs ht
   split at h
   ·rename_i v hv
    cases h;refine⟨OpL.light fun φ a w hop hg=>?_,Nat.le_refl _⟩;have g1:=hop x (by simp[ho,Op.operands]);rw[hx] at g1;simp only[Vr,Sr] at g1;obtain⟨vs,hz,hall⟩:=hg.gz g cs hcs
    have hf:Sr φ (.fpt cs off) (a.eval x):=⟨g,0,vs,hz,by rw[g1,Nat.zero_add],fun i y hi=>by rw[Nat.zero_add];exact hall.get hi⟩
    obtain⟨ad,hu,y,hy,hr⟩:=run_fld hg hf ht hv;exact⟨y,by simp only[execOp,ho,hu,Instr.loadAt,Instr.sureAddr,Sem.run_bind,Sem.run_pure,Result.andThen_ok,hy],hr⟩
   ·cases h
  ·cases h
 ·cases h
def kStore (P:Program) (n:Nat) (L:Hp) (t:TypeId) (x v:V):Option R:=
 match x with
 | .s (.ptr (some (i,o)))=>
   match lk L i,elemSz P t,cellsOf v with
   |some bl,some sz,some l=>
    match Nat.beq l.length sz&&notB bl.ro&&fitsIn bl l&&bl.kind.isNone&&Nat.ble (o+l.length) bl.cells.length with
    |true=>frc (setL bl.cells o l) [] fun cs=>some ⟨[i],.undef,[(i,some {bl with cells:=cs})],n⟩
    |false=>none
   |_,_,_=>none
 |_=>none
theorem kStore_ok {P:Program} {env:List V} {n:Nat} {L:Hp} {t:TypeId} {x y:Operand} {r:R} {o:Oper} (ho:o.op=.store t x y) (h:kStore P n L t (ev env x) (ev env y)=some r):OutR P o env n L r:=by
 unfold kStore at h;split at h
 ·rename_i i off hx
  split at h
  ·rename_i bl sz l hl hsz hcl
   split at h
   ·rename_i hc
    rw[frc_eq] at h;cases h;simp only[Bool.and_eq_true] at hc;obtain⟨hc,hle⟩:=hc;have hle:=Nat.le_of_ble_eq_true hle;rw[notB_eq] at hc
    have hck:(Nat.beq l.length sz&& !bl.ro&&fitsIn bl l&&bl.kind.isNone)=true:=by simp only[Bool.and_eq_true];exact hc
    cases hsy:bl.sym with
    |true=>
     refine OutR.of (ans:=[.cells (setL bl.cells off l)]) (as:=[]) (C:=off+l.length≤bl.cells.length∧setL bl.cells off l=setL bl.cells off l) ?_ ⟨hle,rfl⟩;simp only[aop,ho,aStore,hx,hl,hsz,hcl,hck,hsy]
    |false=>
     refine OutR.of (ans:=[.stc (setL bl.cells off l)]) (as:=[]) (C:=off+l.length≤bl.cells.length∧setL bl.cells off l=setL bl.cells off l) ?_ ⟨hle,rfl⟩;simp only[aop,ho,aStore,hx,hl,hsz,hcl,hck,hsy]
   ·cases h
  ·cases h
 ·cases h
set_option maxRecDepth 100000
def kMake (P:Program) (n:Nat) (t:TypeId) (l c:V):Option R:=
 match P.underlying t,l,c with
 |some (.slice e),.s (.int _ zl),.s (.int _ zc)=>
  match P.info? e,zeroOf P e with
  |some inf,some zs=>
   match natOf zl,natOf zc with
   |some kl,some kc=>
    match Nat.beq inf.size zs.length&&Nat.ble kl kc&&Nat.ble (inf.bytes*kc) 281474976710656&&Nat.ble kc 281474976710656 with
    |true=>frc (rep kc zs) [] fun cs=>some ⟨[],.s (.slc (some (n,0)) kl (some kc)),[(n,some {cells:=cs,ty:=e})],n+1⟩
    |false=>none
   |_,_=>none
  |_,_=>none
 |_,_,_=>none
theorem kMake_ok {P:Program} {env:List V} {n:Nat} {L:Hp} {t:TypeId} {x y:Operand} {r:R} {o:Oper} (ho:o.op=.makeSlice t x y) (h:kMake P n t (ev env x) (ev env y)=some r):OutR P o env n L r:=by
 unfold kMake at h;split at h
 ·rename_i e k1 zl k2 zc hty hx hy
  split at h
  ·rename_i inf zs hi hz
   split at h
   ·rename_i kl kc h1 h2
    have h1:=natOf_eq h1;have h2:=natOf_eq h2;subst h1;subst h2;split at h
    ·rename_i hc
     rw[frc_eq] at h;cases h;simp only[Bool.and_eq_true] at hc;obtain⟨⟨⟨c1,c2⟩,c3⟩,c4⟩:=hc;refine OutR.of (ans:=[.mk kl,.mk kc]) (as:=[]) (C:=(kl:Int)=(kl:Int)∧(kc:Int)=(kc:Int)∧kl≤kc∧inf.bytes*kc≤281474976710656∧kc≤281474976710656) ?_ ⟨rfl,rfl,Nat.le_of_ble_eq_true c2,Nat.le_of_ble_eq_true c3,Nat.le_of_ble_eq_true c4⟩;simp only[aop,ho,aMake,hx,hy,hty,hi,hz,c1,frc_eq]
    ·cases h
   ·cases h
  ·cases h
 ·cases h
def ckBase (v:V) (bl:Bl) (len sz:Nat):Bool:=
 match v with
 | .s (.slc none _ _)=>true
 | .s (.sla _ _ _)=>Nat.ble (len*sz) bl.cells.length
 | .s (.slc (some _) _ (some cap))=>Nat.beq bl.cells.length (cap*sz)
 |_=>false
theorem ckBase_ok {P:Program} {L:Hp} {e:TypeId} {sz:Nat} {v:V} {bi:Option Nat} {len:Nat} {bl:Bl} {C:Prop} {fl:Bool} (h:baseOf P L e sz fl v=some (bi,len,bl,C)) (hk:ckBase v bl len sz=true):C:=by
 unfold baseOf at h;split at h
 ·split at h
  ·cases h;trivial
  ·cases h
 ·split at h
  ·split at h
   ·split at h
    ·cases h;exact Nat.le_of_ble_eq_true hk
    ·cases h
   ·cases h
  ·cases h
 ·split at h
  ·split at h
   ·cases h;exact Nat.eq_of_beq_eq_true hk
   ·cases h
  ·cases h
 ·cases h
def ckSrc (L:Hp) (size k:Nat) (x:V):Bool:=
 match x with
 | .s (.str _)=>true
 | .s (.slc none _ _)=>Nat.beq k 0
 | .s .emp=>Nat.beq k 0
 | .s .emq=>Nat.beq k 0
 | .s (.frz _ _ _)=>true
 | .s (.slc (some (j,p)) _ _)=>match lk L j with|some bl=>Nat.ble (p+k*size) bl.cells.length&&bl.kind.isNone|none=>false
 |_=>false
theorem ckSrc_ok {L:Hp} {size k:Nat} {x:V} {foot:List Nat} {m:Nat} {xs:List S} {D:Prop} (h:srcOf L size k x=some (foot,m,xs,D)) (hk:ckSrc L size k x=true):D:=by
 unfold srcOf at h;split at h
 ·split at h
  ·cases h;trivial
  ·cases h
 ·cases h;exact Nat.eq_of_beq_eq_true hk
 ·cases h;exact Nat.eq_of_beq_eq_true hk
 ·cases h;exact Nat.eq_of_beq_eq_true hk
 ·split at h
  ·rename_i bl hl
   cases h;simp only[ckSrc,hl,Bool.and_eq_true] at hk;exact⟨Nat.le_of_ble_eq_true hk.1,by simpa using hk.2⟩
  ·cases h
 ·split at h
  ·cases h;trivial
  ·cases h
 ·cases h
def ckApp (P:Program) (ts:Array TypeId) (L:Hp) (d x:V):Bool:=
 match ts[0]? with
 |some t=>
  match P.underlying t with
  |some (.slice e)=>
   match P.info? e with
   |some inf=>
    match baseOf P L e inf.size false d,lenV x with
    |some (bi,len,bl,_),some m0=>
     match srcOf L inf.size m0 x with
     |some (foot,m,xs,_)=>
      ckBase d bl len inf.size&&ckSrc L inf.size m0 x&&Nat.beq m0 m&&fitsIn bl xs&&(match bi with|none=>Nat.ble 1 m|some _=>true)&&Nat.ble ((len+m)*inf.bytes) 140737488355328&&Nat.ble (len+m) 140737488355328
     |none=>false
    |_,_=>false
   |none=>false
  |_=>false
 |none=>false
def kApp (P:Program) (ts:Array TypeId) (n:Nat) (L:Hp) (d x:V):Option R:=
 match ckApp P ts L d x with
 |true=>match aAppend P ts n L false d x [] with|some out=>some out.r|none=>none
 |false=>none
theorem ckApp_ok {P:Program} {ts:Array TypeId} {n:Nat} {L:Hp} {d x:V} {out:Out} (h:aAppend P ts n L false d x []=some out) (hk:ckApp P ts L d x=true):out.C:=by
 unfold aAppend at h;split at h
 ·rename_i t tx ht0 ht1
  split at h
  ·rename_i e dx ht htx
   split at h
   ·rename_i inf zs hni hi hz
    split at h
    ·rename_i bi len bl C hsz hb
     split at h
     ·rename_i m0 hm0
      split at h
      ·rename_i foot m xs D hs
       simp only[ckApp,ht0,ht,hi,hb,hm0,hs,Bool.and_eq_true] at hk;obtain⟨⟨⟨⟨⟨⟨k1,k2⟩,k3⟩,k4⟩,k5⟩,k6⟩,k7⟩:=hk;simp only[frc_eq] at h;cases h;refine⟨ckBase_ok hb k1,ckSrc_ok hs k2,Nat.eq_of_beq_eq_true k3,k4,?_,Nat.le_of_ble_eq_true k6,Nat.le_of_ble_eq_true k7⟩;rintro rfl;exact Nat.le_of_ble_eq_true k5
      ·cases h
     ·cases h
    ·cases h
   ·cases h
  ·cases h
 ·cases h
def kApp0 (P:Program) (ts:Array TypeId) (n:Nat) (L:Hp) (d x:V):Option R:=
 match aApp0 P ts n L d x [],lenV x with
 |some out,some 0=>match (match ts[0]? with|some t=>(match P.underlying t with|some (.slice e)=>(match elemSz P e with|some sz=>ckSrc L sz 0 x|none=>false)|_=>false)|none=>false) with|true=>some out.r|false=>none
 |_,_=>none
theorem lenV_src {L:Hp} {size k:Nat} {x:V} {foot:List Nat} {m m':Nat} {xs:List S} {D:Prop} (h:srcOf L size k x=some (foot,m,xs,D)) (hk:lenV x=some m') (hc:ckSrc L size k x=true) (h0:m'=0):m=0:=by
 subst h0;unfold srcOf at h;split at h
 ·split at h
  ·cases h;simpa [lenV] using hk
  ·cases h
 ·cases h;rfl
 ·cases h;rfl
 ·cases h;rfl
 ·split at h
  ·cases h;simpa [lenV] using hk
  ·cases h
 ·split at h
  ·cases h;simpa [lenV] using hk
  ·cases h
 ·cases h
theorem kApp0_ok {P:Program} {ts:Array TypeId} {n:Nat} {L:Hp} {d x:V} {r:R} (h:kApp0 P ts n L d x=some r):∃ as C,aApp0 P ts n L d x []=some ⟨r,as,C⟩∧C:=by
 unfold kApp0 at h;split at h
 ·rename_i out hout hlen
  split at h
  ·rename_i hc
   cases h;refine⟨out.ans,out.C,hout,?_⟩;unfold aApp0 at hout;split at hout
   ·rename_i t tx ht0 ht1
    split at hout
    ·rename_i e dx ht htx
     split at hout
     ·rename_i sz _ _ hni hsz
      split at hout
      ·rename_i foot m xs D hs
       cases hout;simp only[ht0,ht,hsz] at hc;exact⟨ckSrc_ok hs hc,lenV_src hs hlen hc rfl⟩
      ·cases hout
     ·cases hout
    ·cases hout
   ·cases hout
  ·cases h
 ·cases h
def kCopy (P:Program) (ts:Array TypeId) (n:Nat) (L:Hp) (d x:V):Option R:=
 match ts[0]?,lenV x with
 |some t,some m0=>
  match P.underlying t,d with
  |some (.slice e),.s (.slc (some (i,o)) dl _)=>
   match elemSz P e,lk L i with
   |some sz,some bl=>
    match srcOf L sz (min m0 dl) x with
    |some (foot,m,xs,C)=>
     match notB bl.ro&&bl.kind.isNone&&ckSrc L sz (min m0 dl) x&&Nat.beq m m0&&Nat.ble (o+min m0 dl*sz) bl.cells.length&&fitsIn bl xs with
     |true=>frc (setL bl.cells o xs) [] fun cs=>some ⟨i::foot,.s (.int .i64 (Int.ofNat (min m0 dl))),[(i,some {bl with cells:=cs})],n⟩
     |false=>none
    |none=>none
   |_,_=>none
  |_,_=>none
 |_,_=>none
theorem kCopy_ok {P:Program} {ts:Array TypeId} {n:Nat} {L:Hp} {d x:V} {r:R} (h:kCopy P ts n L d x=some r):∃ ans as C,aCopy P ts n L d x ans=some ⟨r,as,C⟩∧C:=by
 unfold kCopy at h;split at h
 ·rename_i t m0 ht hm0
  split at h
  ·rename_i e i o dl cap hty
   split at h
   ·rename_i sz bl hsz hl
    split at h
    ·rename_i foot m xs C hs
     split at h
     ·rename_i hc
      rw[frc_eq] at h;cases h;simp only[Bool.and_eq_true,notB_eq] at hc;obtain⟨⟨⟨⟨⟨c1,c2⟩,c3⟩,c4⟩,c5⟩,c6⟩:=hc;have c4:=Nat.eq_of_beq_eq_true c4
      have hck:(!bl.ro&&bl.kind.isNone)=true:=by simp only[Bool.and_eq_true];exact⟨c1,c2⟩
      refine⟨[.idx (min m0 dl),.cells (setL bl.cells o xs)],[],(C∧min m0 dl=min m dl∧o+min m0 dl*sz≤bl.cells.length∧setL bl.cells o xs=setL bl.cells o xs∧fitsIn bl xs=true),?_,ckSrc_ok hs c3,by rw[c4],Nat.le_of_ble_eq_true c5,rfl,c6⟩;simp only[aCopy,ht,hty,hsz,hl,hs,hck];rfl
     ·cases h
    ·cases h
   ·cases h
  ·cases h
 ·cases h
def unB:List S→Option (List UInt8)
 |[]=>some []
 | .int .u8 z::t=>match natOf z,unB t with|some k,some l=>(match Nat.blt k 256 with|true=>some (UInt8.ofNat k::l)|false=>none)|_,_=>none
 |_=>none
theorem unB_ok:∀ {cs:List S} {l:List UInt8},unB cs=some l→cs=byteS l
 |[],l,h=>by simp[unB] at h;subst h;rfl
 |x::t,l,h=>by
  cases x with
  |int k z=>
   cases k<;>simp only[unB,reduceCtorEq] at h
   split at h
   ·rename_i k l' h1 h2
    split at h
    ·rename_i hlt
     cases h;have hz:=natOf_eq h1;have:=unB_ok h2;have hlt:=blt_iff.1 hlt;subst hz;rw[this];simp only[byteS,List.map_cons,UInt8.toNat_ofNat'];rw[Nat.mod_eq_of_lt (by simpa using hlt)]
    ·cases h
   ·cases h
  |_=>simp[unB] at h
def kToStr (P:Program) (n:Nat) (L:Hp) (src dst:TypeId) (x:V):Option R:=
 match P.underlying src,P.underlying dst,x with
 |some (.slice e),some .string,.s (.slc (some (i,o)) len _)=>
  match P.underlying e,lk L i with
  |some (.int .u8),some bl=>
   match unB ((bl.cells.drop o).take len),bl.kind with
   |some l,none=>match Nat.beq len l.length with|true=>some ⟨[i],.s (.str l),[],n⟩|false=>none
   |_,_=>none
  |_,_=>none
 |some (.slice e),some .string,.s (.slc none _ _)=>match P.underlying e with|some (.int .u8)=>some ⟨[],.s (.str []),[],n⟩|_=>none
 |_,_,_=>none
theorem kToStr_ok {P:Program} {n:Nat} {L:Hp} {src dst:TypeId} {x:V} {r:R} (h:kToStr P n L src dst x=some r):∃ ans as C,aToStr P n L src dst x ans=some ⟨r,as,C⟩∧C:=by
 unfold kToStr at h;split at h
 ·rename_i e i o len c hs hd
  split at h
  ·rename_i bl he hl
   split at h
   ·rename_i l hu hkd
    split at h
    ·rename_i hlen
     cases h;exact⟨[.val (.s (.str l))],[],((bl.cells.drop o).take len=byteS l∧len=l.length∧bl.kind=none),by simp only[aToStr,hs,hd,he,hl],unB_ok hu,Nat.eq_of_beq_eq_true hlen,hkd⟩
    ·cases h
   ·cases h
  ·cases h
 ·rename_i e len c hs hd
  split at h
  ·rename_i he
   cases h;exact⟨[],[],True,by simp only[aToStr,hs,hd,he],trivial⟩
  ·cases h
 ·cases h
def kCap (P:Program) (t:TypeId) (x:V):Option S:=
 match P.underlying t,x with
 |some (.slice _),.s (.slc none _ _)=>some (.int .i64 0)
 |some (.slice _),.s (.slc (some _) _ (some c))=>some (.int .i64 (Int.ofNat c))
 |_,_=>none
def lgt (n:Nat) (s:Option S):Option R:=match s with|some s=>some ⟨[],.s s,[],n⟩|none=>none
def outR (o:Option Out):Option R:=match o with|some o=>some o.r|none=>none
def kBuiltin (P:Program) (b:Builtin) (ts:Array TypeId) (n:Nat) (L:Hp) (args:List V):Option R:=
 match b,args with
 | .len,[x]=>match ts[0]? with|some t=>lgt n (aLen P t x)|none=>none
 | .cap,[x]=>match ts[0]? with|some t=>lgt n (kCap P t x)|none=>none
 | .min,[x,y]=>match aMinMax false x y [] with|some (s,_,_)=>some ⟨[],.s s,[],n⟩|none=>none
 | .max,[x,y]=>match aMinMax true x y [] with|some (s,_,_)=>some ⟨[],.s s,[],n⟩|none=>none
 | .copy,[x,y]=>kCopy P ts n L (wkV x) (wkV y)
 | .append,[x,y]=>match kApp P ts n L x (wkV y) with|some r=>some r|none=>kApp0 P ts n L x (wkV y)
 |_,_=>none
def kop (P:Program) (o:Oper) (g:Operand→V) (n:Nat) (L:Hp):Option R:=
 match o.op with
 | .move x=>some ⟨[],g x,[],n⟩
 | .assign x=>some ⟨[],g x,[],n⟩
 | .pick c a b=>match g c with| .s (.bool t)=>(match t with|true=>some ⟨[],g a,[],n⟩|false=>some ⟨[],g b,[],n⟩)|_=>none
 | .binOp op t x y _=>lgt n (kBin P op t (wkV (g x)) (wkV (g y)))
 | .unOp op _ x=>lgt n (kUn op (g x))
 | .convert src dst x=>
   match P.underlying src,P.underlying dst with
   |some (.slice _),some .string=>kToStr P n L src dst (wkV (g x))
   |some .string,some (.slice _)=>outR (aToBytes P n src dst (g x) [])
   |_,_=>lgt n (kConv P src dst (g x))
 | .makeSlice t l c=>kMake P n t (g l) (g c)
 | .slice t x lo hi mx=>lgt n (kSlice P n t (g x) (lo.map g) (hi.map g) (mx.map g))
 | .build t parts=>outR (aBuild P n t (parts.toList.map fun (i,x)=>(i,g x)) [])
 | .buildSlice t len parts=>outR (aBuildSlice P n t len (parts.toList.map fun (i,x)=>(i,g x)) [])
 | .field t x f=>outR (aFieldV P n t (g x) f [])
 | .extract x i=>match aExt (g x) i with|some v=>some ⟨[],v,[],n⟩|none=>none
 | .load t a=>kLoad P n L t (g a)
 | .store t a x=>kStore P n L t (g a) (g x)
 | .alloc t=>outR (aAlloc P n t [])
 | .box t x=>outR (aBox n t (g x) [])
 | .fieldAddr s x f=>outR (aField P n s (g x) f [])
 | .indexAddr t x ix=>lgt n (kIdx P t (g x) (g ix))
 | .index t x ix=>lgt n (kIndex P t (g x) (g ix))
 | .nilCheck x=>outR (aNil n (g x) [])
 | .call c=>match c.callee with| .builtin b=>kBuiltin P b c.argTypes n L (c.args.toList.map g)|_=>none
 |_=>none
theorem lgt_some {n:Nat} {s:Option S} {r:R} (h:lgt n s=some r):∃ x,s=some x∧r=⟨[],.s x,[],n⟩:=by
 cases s with
 |none=>simp[lgt] at h
 |some x=>simp[lgt] at h;exact⟨x,rfl,h.symm⟩
theorem outR_some {o:Option Out} {r:R} (h:outR o=some r):∃ out,o=some out∧r=out.r:=by
 cases o with
 |none=>simp[outR] at h
 |some x=>simp[outR] at h;exact⟨x,rfl,h.symm⟩
theorem kBuiltin_ok {P:Program} {env:List V} {n:Nat} {L:Hp} {o:Oper} {c:Call} {b:Builtin} {r:R} (ho:o.op=.call c) (hc:c.callee=.builtin b) (h:kBuiltin P b c.argTypes n L (c.args.toList.map (ev env))=some r):OutR P o env n L r:=by
 have go:∀ (ans as:List Ans) (C:Prop),aBuiltin P b c.argTypes n L (c.args.toList.map (ev env)) ans=some ⟨r,as,C⟩→C→OutR P o env n L r:=by
  intro ans as C h1 h2;refine OutR.of (ans:=ans) (as:=as) (C:=C) ?_ h2;simp only[aop,ho,hc];exact h1
 unfold kBuiltin at h;split at h
 ·rename_i x hargs
  split at h
  ·rename_i t ht
   obtain⟨s,hs,rfl⟩:=lgt_some h;exact go [] [] True (by simp only[aBuiltin,hargs,ht,hs,ofSO]) trivial
  ·cases h
 ·rename_i x hargs
  split at h
  ·rename_i t ht
   obtain⟨s,hs,rfl⟩:=lgt_some h
   have hl:∃ d,c.args.toList=[d]∧ev env d=x:=by
    cases hl:c.args.toList with
    |nil=>rw[hl] at hargs;simp at hargs
    |cons d r=>rw[hl] at hargs;cases r with
     |nil=>simp at hargs;exact⟨d,rfl,hargs⟩
     |cons _ _=>simp at hargs
   obtain⟨d,hl,hd⟩:=hl
   have ea:∀ a:Act,c.args.map a.eval= #[a.eval d]:=fun a=>by apply Array.ext';simp[hl]
   have opd:d∈o.op.operands:=by rw[ho];simp only[Op.operands,Call.operands,hc];simp[←Array.mem_toList_iff,hl]
   refine⟨OpL.light fun φ a w hop _=>?_,Nat.le_refl _⟩;have g:=hop d opd;unfold kCap at hs;split at hs
   ·rename_i e len cap hty
    rw[hd] at g;obtain⟨_,_,hv⟩:=g;cases hs;refine⟨.int .i64 0,?_,rfl⟩;simp[execOp,ho,resolve,hc,invoke,builtin,ea,hv,Builtin.cap_,ht,Ab.run_underlying hty,goInt]
   ·rename_i e pt len cap hty
    rw[hd] at g;obtain⟨i,off⟩:=pt;obtain⟨b,k,_,hv,_,hcap⟩:=g
    have:cap=k:=by rcases hcap with h|h<;>cases h;rfl
    subst this;cases hs;refine⟨.int .i64 (Int.ofNat cap),?_,rfl⟩;simp[execOp,ho,resolve,hc,invoke,builtin,ea,hv,Builtin.cap_,ht,Ab.run_underlying hty,goInt]
   ·cases hs
  ·cases h
 ·rename_i x y hargs
  split at h
  ·rename_i s as C hs
   cases h;refine go [] as C (by simp only[aBuiltin,hargs,hs,ofSO]) ?_;unfold aMinMax at hs;split at hs
   ·simp only[outI_eq,finE,Option.some.injEq,Prod.mk.injEq] at hs
    obtain⟨_,_,rfl⟩:=hs;exact⟨trivial,trivial⟩
   ·cases hs
  ·cases h
 ·rename_i x y hargs
  split at h
  ·rename_i s as C hs
   cases h;refine go [] as C (by simp only[aBuiltin,hargs,hs,ofSO]) ?_;unfold aMinMax at hs;split at hs
   ·simp only[outI_eq,finE,Option.some.injEq,Prod.mk.injEq] at hs
    obtain⟨_,_,rfl⟩:=hs;exact⟨trivial,trivial⟩
   ·cases hs
  ·cases h
 ·rename_i x y hargs
  obtain⟨ans,as,C,h1,h2⟩:=kCopy_ok h;exact go ans as C (by simp only[aBuiltin,hargs];exact h1) h2
 ·rename_i x y hargs
  split at h
  ·rename_i r' hr
   cases h;unfold kApp at hr;split at hr
   ·rename_i hck
    split at hr
    ·rename_i out hout
     cases hr;refine go [.eager] out.ans out.C ?_ (ckApp_ok hout hck);simp only[aBuiltin,hargs];exact hout
    ·cases hr
   ·cases hr
  ·obtain⟨as,C,h1,h2⟩:=kApp0_ok h
   exact go [.keep] as C (by simp only[aBuiltin,hargs];exact h1) h2
 ·cases h
theorem aBuild_C {P:Program} {n:Nat} {t:TypeId} {parts:List (Nat×V)} {out:Out} (h:aBuild P n t parts []=some out):out.C:=by
 unfold aBuild at h
 repeat' split at h
 all_goals first|(cases h;done)|(rw[lt_eq] at h;cases h;trivial)
theorem aBuildSlice_C {P:Program} {n:Nat} {t:TypeId} {len:Nat} {parts:List (Nat×V)} {out:Out} (h:aBuildSlice P n t len parts []=some out):out.C:=by
 unfold aBuildSlice at h
 repeat' split at h
 all_goals first|(cases h;done)|(rw[frc_eq] at h;cases h;trivial)
theorem aFieldV_C {P:Program} {n:Nat} {t:TypeId} {x:V} {f:Nat} {out:Out} (h:aFieldV P n t x f []=some out):out.C:=by
 unfold aFieldV at h
 repeat' split at h
 all_goals first|(cases h;done)|(rw[lt_eq] at h;cases h;trivial)
theorem aAlloc_C {P:Program} {n:Nat} {t:TypeId} {out:Out} (h:aAlloc P n t []=some out):out.C:=by
 unfold aAlloc at h;split at h
 ·rw[frc_eq] at h;cases h;trivial
 ·cases h
theorem aBox_C {n:Nat} {t:TypeId} {x:V} {out:Out} (h:aBox n t x []=some out):out.C:=by
 unfold aBox at h;split at h
 ·rw[frc_eq] at h;cases h;trivial
 ·cases h
theorem aField_C {P:Program} {n:Nat} {t:TypeId} {x:V} {f:Nat} {out:Out} (h:aField P n t x f []=some out):out.C:=by
 unfold aField at h
 repeat' split at h
 all_goals first|(cases h;done)|(rw[lt_eq] at h;cases h;trivial)
theorem aNil_C {n:Nat} {x:V} {out:Out} (h:aNil n x []=some out):out.C:=by
 unfold aNil at h
 repeat' split at h
 all_goals first|(cases h;done)|(rw[lt_eq] at h;cases h;trivial)
theorem aToBytes_C {P:Program} {n:Nat} {src dst:TypeId} {x:V} {out:Out} (h:aToBytes P n src dst x []=some out):out.C:=by
 unfold aToBytes at h
 repeat' split at h
 all_goals first|(cases h;done)|(cases h;trivial)
theorem kop_ok {P:Program} {o:Oper} {env:List V} {n:Nat} {L:Hp} {r:R} (h:kop P o (ev env) n L=some r):OutR P o env n L r:=by
 unfold kop at h;split at h
 ·rename_i x ho;cases h;exact OutR.of (ans:=[]) (as:=[]) (C:=True) (by simp only[aop,ho,lt_eq]) trivial
 ·rename_i x ho;cases h;exact OutR.of (ans:=[]) (as:=[]) (C:=True) (by simp only[aop,ho,lt_eq]) trivial
 ·rename_i c a b ho
  split at h
  ·rename_i t hc
   split at h
   ·cases h;exact OutR.of (ans:=[]) (as:=[]) (C:=True) (by simp only[aop,ho,hc,lt_eq]) trivial
   ·cases h;exact OutR.of (ans:=[]) (as:=[]) (C:=True) (by simp only[aop,ho,hc,lt_eq]) trivial
  ·cases h
 ·rename_i op t x y ty ho
  obtain⟨s,hs,rfl⟩:=lgt_some h;obtain⟨ans,as,C,h1,h2⟩:=kBin_ok hs;exact OutR.of (ans:=ans) (as:=as) (C:=C) (by simp only[aop,ho,h1,ofSO]) h2
 ·rename_i op t x ho
  obtain⟨s,hs,rfl⟩:=lgt_some h;obtain⟨ans,as,C,h1,h2⟩:=kUn_ok hs;exact OutR.of (ans:=ans) (as:=as) (C:=C) (by simp only[aop,ho,h1,ofSO]) h2
 ·rename_i src dst x ho
  split at h
  ·rename_i e hs hd
   obtain⟨ans,as,C,h1,h2⟩:=kToStr_ok h;exact OutR.of (ans:=ans) (as:=as) (C:=C) (by simp only[aop,ho,hs,hd,h1]) h2
  ·rename_i e hs hd
   obtain⟨out,h1,rfl⟩:=outR_some h;exact OutR.of (ans:=[]) (as:=out.ans) (C:=out.C) (by simp only[aop,ho,hs,hd];exact h1) (aToBytes_C h1)
  ·rename_i n1 n2
   obtain⟨s,hs,rfl⟩:=lgt_some h;obtain⟨ans,as,C,h1,h2⟩:=kConv_ok hs;refine OutR.of (ans:=ans) (as:=as) (C:=C) ?_ h2;simp only[aop,ho,h1,ofSO]
 ·rename_i t l c ho;exact kMake_ok ho h
 ·rename_i t x lo hi mx ho
  obtain⟨s,hs,rfl⟩:=lgt_some h;exact kSlice_ok ho hs
 ·rename_i t parts ho
  obtain⟨out,h1,rfl⟩:=outR_some h;exact OutR.of (ans:=[]) (as:=out.ans) (C:=out.C) (by simp only[aop,ho];exact h1) (aBuild_C h1)
 ·rename_i t len parts ho
  obtain⟨out,h1,rfl⟩:=outR_some h;exact OutR.of (ans:=[]) (as:=out.ans) (C:=out.C) (by simp only[aop,ho];exact h1) (aBuildSlice_C h1)
 ·rename_i t x f ho
  obtain⟨out,h1,rfl⟩:=outR_some h;exact OutR.of (ans:=[]) (as:=out.ans) (C:=out.C) (by simp only[aop,ho];exact h1) (aFieldV_C h1)
 ·rename_i x i ho
  split at h
  ·rename_i v hv
   cases h;exact OutR.of (ans:=[]) (as:=[]) (C:=True) (by simp only[aop,ho,hv,lt_eq]) trivial
  ·cases h
 ·rename_i t a ho;exact kLoad_ok ho h
 ·rename_i t a x ho;exact kStore_ok ho h
 ·rename_i t ho
  obtain⟨out,h1,rfl⟩:=outR_some h;exact OutR.of (ans:=[]) (as:=out.ans) (C:=out.C) (by simp only[aop,ho];exact h1) (aAlloc_C h1)
 ·rename_i t x ho
  obtain⟨out,h1,rfl⟩:=outR_some h;exact OutR.of (ans:=[]) (as:=out.ans) (C:=out.C) (by simp only[aop,ho];exact h1) (aBox_C h1)
 ·rename_i s x f ho
  obtain⟨out,h1,rfl⟩:=outR_some h;exact OutR.of (ans:=[]) (as:=out.ans) (C:=out.C) (by simp only[aop,ho];exact h1) (aField_C h1)
 ·rename_i t x ix ho
  obtain⟨s,hs,rfl⟩:=lgt_some h;exact kIdx_ok ho hs
 ·rename_i t x ix ho
  obtain⟨s,hs,rfl⟩:=lgt_some h;exact kIndex_ok ho hs
 ·rename_i x ho
  obtain⟨out,h1,rfl⟩:=outR_some h;exact OutR.of (ans:=[]) (as:=out.ans) (C:=out.C) (by simp only[aop,ho];exact h1) (aNil_C h1)
 ·rename_i c ho
  split at h
  ·rename_i b hc;exact kBuiltin_ok ho hc h
  ·cases h
 ·cases h
end Ab
end Go.Proofs.YtphdhedhhlfepaaGreatDoor
