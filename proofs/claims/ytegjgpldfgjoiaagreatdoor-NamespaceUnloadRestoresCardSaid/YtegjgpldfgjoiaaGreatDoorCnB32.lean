import Derived.Test.YtegjgpldfgjoiaaGreatDoorCnB25
import Derived.Test.YtegjgpldfgjoiaaGreatDoorCnB31
import Derived.Test.YtegjgpldfgjoiaaGreatDoorCnB16
import Derived.Test.YtegjgpldfgjoiaaGreatDoorRows
import Derived.Sort.MapsRangeIn
import Derived.Lib.SlKeysI
import Derived.Sort.KeysCollected
import Derived.Sort.OwnSorted
import Derived.Maps.AppendAt
import Derived.Maps.OwnIn
import Derived.WalkKit
import Derived.OwnWalkIn
import Derived.TacticsInMore
import Derived.RegionIn
import Derived.LoopNIn
import Derived.LoopIn
import Derived.CallsIn
import Derived.Test.YtegjgpldfgjoiaaGreatDoorCnB24
set_option linter.unusedSimpArgs false
set_option linter.unusedVariables false
namespace Go.Proofs.YtegjgpldfgjoiaaGreatDoor
open Go Ab
set_option maxRecDepth 100000
set_option maxHeartbeats 4000000
def yD (x:Ent):List S:=[.str x.path,.int .i64 x.op,.int .i64 x.par,.int .i64 x.tab,.int .i64 x.node]
def GK (E:List Ent) (z:Int):Option Ent:=if z<0 then none else E[z.toNat]?
theorem Ea (E:List Ent) (T:List Tb) (z:Int) (r:Option Ent) (hr:GK E z=r):FC Tryz.prog 27 [.s (.ptr (some (0,0))),nI z] 4 (spL E T) (.tup [.agg (yD (r.getD eZ)),.s (.bool r.isSome)]) 4 (spL E T):=by
 refine FC.walk (by kernel_rfl) Tryz.func27 rfl rfl ?_
 repeat'(first|exact y0|refine y1 ?_|refine y2 ?_ ?_|(refine y8 ?_ ?_<;>intro h<;>try exact y6)|refine RegX.oLkT r rfl rfl rfl rfl rfl rfl hr rfl ?_|refine y3 ?_|refine y7 ?_ ?_|refine y4 ?_|(refine y9 ?_ ?_<;>intro h)|exact y5|fail)
 exact⟨.inl rfl,_,[],VLe.refl _,EndOK.by rfl ⟨rfl,rfl,rfl,rfl,trivial⟩ rfl rfl rfl rfl⟩
theorem yT (E:List Ent) (T:List Tb) (s nm:By) (hs:s.length<9223372036854775807) (hn:nm.length<9223372036854775807):
 FC Tryz.prog 20 [.s (.ptr (some (0,0))),sV s,sV nm] 4 (spL E T) (.tup [.s (.int .i64 (((eS E s nm).getD 0:Nat):Int)),.s (.bool (eS E s nm).isSome)]) 4 (spL E T):=by
 have h1:=dY s hs;have h2:=dY nm hn;have hv:= @iJ s;unfold eS;generalize aq s=r1 at h1 hv |-;generalize aq nm=r2 at h2 |-;obtain⟨q1,ok1⟩:=r1;obtain⟨q2,ok2⟩:=r2;refine FC.walk (by kernel_rfl) Tryz.func20 rfl rfl ?_;cases ok1
 ·
  repeat'(first|exact y0|refine y1 ?_|refine y2 ?_ ?_|(refine y8 ?_ ?_<;>intro h<;>try(first|contradiction|exact y6))|(refine wC ?_;first|refine wF 48 (pu h1 ?_))|refine y3 ?_|refine y7 ?_ ?_|refine y4 ?_|(refine y9 ?_ ?_<;>intro h)|exact y5|fail)
  exact⟨.inl rfl,_,[],VLe.refl _,EndOK.by rfl ⟨rfl,rfl,rfl,rfl,trivial⟩ rfl rfl rfl rfl⟩
 cases ok2
 ·
  repeat'(first|exact y0|refine y1 ?_|refine y2 ?_ ?_|(refine y8 ?_ ?_<;>intro h<;>try(first|contradiction|exact y6))|(refine wC ?_;first|refine wF 48 (pu h1 ?_)|refine wF 48 (pu h2 ?_))|refine y3 ?_|refine y7 ?_ ?_|refine y4 ?_|(refine y9 ?_ ?_<;>intro h)|exact y5|fail)
  exact⟨.inl rfl,_,[],VLe.refl _,EndOK.by rfl ⟨rfl,rfl,rfl,rfl,trivial⟩ rfl rfl rfl rfl⟩
 simp only[and_self,if_true];have hcd:=tI q1 q2;have hroot:= @ip q1 q2;have hcl:=jO q1 q2;obtain⟨hu0,_,hseg,_,_,_⟩:=aS (hv rfl);simp only at hseg hu0;generalize bK q1 q2=cs at*
 repeat'(first|exact y0|refine y1 ?_|refine y2 ?_ ?_|(refine y8 ?_ ?_<;>intro h<;>try(first|contradiction|exact y6))|(refine wC ?_;first|refine wF 48 (pu h1 ?_)|refine wF 48 (pu h2 ?_)|refine wF 49 (pu hcd ?_))|refine y3 ?_|refine y7 ?_ ?_|refine y4 ?_|(refine y9 ?_ ?_<;>intro h)|exact y5|fail)
 refine Ex.inv (σ:=Nat) (fun j=>[(33,nI j)]) (fun j=>spL E T) (fun j=>j<=cs.length/\lkC E (cs.drop j)=lkC E cs) (fun j=>cs.length-j) 0 rfl (fun _=>rfl) ⟨Nat.zero_le _,rfl⟩ ⟨VLe.refl _,trivial⟩ ⟨rfl,rfl,rfl,rfl,trivial⟩ ?_;rintro j ⟨j1,j2⟩;by_cases hj:j<cs.length
 ·rw[List.drop_eq_getElem_cons hj] at j2
  have hg:cs.getD j z0=cs[j]:=by simp[List.getD_eq_getElem?_getD,hj]
  have hrt:(cs.getD j z0).root=true:=by rw[hg];exact hroot _ (List.getElem_mem hj)
  have hf:=lV (cs.getD j z0) hrt;rw[<-hg,lkC] at j2
  cases hl:ixP 0 E (aL (cs.getD j z0)) with
  |none=>
   rw[hl] at j2
   repeat'(first|exact y0|refine y1 ?_|refine y2 ?_ ?_|(refine y8 ?_ ?_<;>intro h<;>try(exact y6))|(refine wC ?_;first|refine wF 50 (pu hf ?_))|refine RegX.pLk none rfl rfl rfl rfl rfl rfl hl rfl ?_|refine y3 ?_|refine y7 ?_ ?_|refine y4 ?_|(refine y9 ?_ ?_<;>intro h)|exact y5|fail)
   all_goals try first
    |omega
    |exact aa (by omega) (by omega)
   exact LoopR.same (j+1) ⟨hj,j2⟩ (by omega) rfl ⟨VLe.refl _,trivial⟩ ⟨rfl,rfl,rfl,rfl,trivial⟩ rfl rfl (by decide)
  |some k=>
   rw[hl] at j2;simp only at j2
   repeat'(first|exact y0|refine y1 ?_|refine y2 ?_ ?_|(refine y8 ?_ ?_<;>intro h<;>try(exact y6))|(refine wC ?_;first|refine wF 50 (pu hf ?_))|refine RegX.pLk (some k) rfl rfl rfl rfl rfl rfl hl rfl ?_|refine y3 ?_|refine y7 ?_ ?_|refine y4 ?_|(refine y9 ?_ ?_<;>intro h)|exact y5|fail)
   all_goals try omega
   rw[<-j2];exact⟨.inl rfl,_,[],VLe.refl _,EndOK.by rfl ⟨rfl,rfl,rfl,rfl,trivial⟩ rfl rfl rfl rfl⟩
 ·have hd:cs.drop j=[]:=by simp;omega
  rw[hd] at j2;simp only[lkC] at j2;rw[<-j2]
  repeat'(first|exact y0|refine y1 ?_|refine y2 ?_ ?_|(refine y8 ?_ ?_<;>intro h<;>try(exact y6))|refine y3 ?_|refine y7 ?_ ?_|refine y4 ?_|(refine y9 ?_ ?_<;>intro h)|exact y5|fail)
  all_goals exact⟨.inl rfl,_,[],VLe.refl _,EndOK.by rfl ⟨rfl,rfl,rfl,rfl,trivial⟩ rfl rfl rfl rfl⟩
theorem tY {p:List Nd}:∀ {t t':Fo} {i:Nat},t.At p i->t'.At p i->t.cnt=t'.cnt->t=t'
 | .nil,.nil,_,_,_,_=>rfl
 | .nil,.cons _ _ _,_,_,_,h=>by simp[Fo.cnt] at h
 | .cons _ _ _,.nil,_,_,_,h=>by simp[Fo.cnt] at h
 | .cons x k n,.cons x' k' n',i,h1,h2,h=>by
   obtain⟨a1,a2,a3,a4⟩:=h1;obtain⟨b1,b2,b3,b4⟩:=h2;rw[a1] at b1;cases b1;have hk:=tY a3 b3 (by omega);subst hk;have hn:=tY a4 b4 (by simp only[Fo.cnt] at h;omega);subst hn;rfl
theorem Ey {p:List Nd}:∀ {t t':Fo} {i:Nat},t.At p i->t'.At p i->t.size=t'.size->t=t'
 | .nil,.nil,_,_,_,_=>rfl
 | .nil,.cons _ _ _,_,_,_,h=>by simp only[Fo.size] at h;omega
 | .cons _ _ _,.nil,_,_,_,h=>by simp only[Fo.size] at h;omega
 | .cons x k n,.cons x' k' n',i,h1,h2,h=>by
   obtain⟨a1,a2,a3,a4⟩:=h1;obtain⟨b1,b2,b3,b4⟩:=h2;rw[a1] at b1;cases b1;have hk:=tY a3 b3 (by omega);subst hk;have hn:=Ey a4 b4 (by simp only[Fo.size] at h;omega);subst hn;rfl
def awT:Fo:=.cons ⟨11,0,[],2⟩ (.cons ⟨3,0,[88],0⟩ .nil (.cons ⟨4,0,[],1⟩ (.cons ⟨13,0,[],2⟩ (.cons ⟨3,0,[95,65,68,82],0⟩ .nil (.cons ⟨1,1,[],0⟩ .nil .nil)) .nil) .nil)) .nil
def awE:List Ent:=E0++[dG [92,88] 11 0 1 0,dG [92,88,46,95,65,68,82] 13 3 1 3]
theorem G6:awT.At awP 0:=by
 unfold awT
 repeat' (first|exact trivial|exact rfl|refine⟨?_,?_⟩)
theorem rU:bz awP=true:=by decide+kernel
theorem G7:fi awP (anS awP awT).F (anS awP awT).S awT awP.length 0 (anS awP awT).G=[]:=by decide+kernel
theorem F0:dj []=[]:=by simp[dj]
theorem aw_D:aW awP 1 false awT 0 ⟨true,0,[]⟩ E0 []=(awE,[],0):=by kernel_rfl
theorem nr:BitO E0:=by
 intro k
 match k with
 |0=>exact (by decide:(0:Int)<=1099511627776)
 |1=>exact (by decide:(0:Int)<=1099511627776)
 |2=>exact (by decide:(0:Int)<=1099511627776)
 |k+3=>exact (by decide:(0:Int)<=1099511627776)
theorem mU:RegE [] E0:=by
 intro k hk ho
 match k,hk with
 |0,_=>exact absurd ho (by decide)
 |1,_=>exact absurd ho (by decide)
 |2,_=>exact absurd ho (by decide)
theorem py:FC Tryz.prog 12 [] 0 [] (bV true) 0 []:=by
 have hw:wfN awP:=by
  intro x hx
  have:∀ x∈awP,x.str.length<=10:=by decide
  have:=this x hx;omega
 have hI:wfI awP:=by
  have:∀ x∈awP,0<=x.int:=by decide
  exact this
 obtain⟨h1,t,ha,hv,hd,hs⟩:=dQ rU;have ht:t=awT:=Ey ha G6 (by rw[hs];rfl);subst ht;have hck:=nl awP hw hI rU h1 awT ha hv hs
 have h6:C6 (fi awP (anS awP awT).F (anS awP awT).S awT awP.length 0 (anS awP awT).G):=by rw[G7];intro d hd;cases hd
 have H:PrO awP:=⟨h1,hw,hI,fun j hj=>tJ h6 j hj,fun j hj=>by
  obtain⟨sl,h1,h2⟩:=cY ha hv (Nat.zero_le _) (by omega:j<0+awT.size)
  exact lx h1 h2⟩
 rw[G7,F0] at hck;have hen:=tu awP h1 (by decide) awT ha hv hs
 have hld:=yU awP H [] (by decide) hck (fun d hd=>by cases hd) awT ha hv hs (l4 ha hv hs) hen E0 [] (by decide) mU nr _ aw_D (awE,[],0) rfl _ _ _ (fun h=>absurd rfl h) (fun _ h=>absurd rfl h) fun _ _=>⟨rfl,rfl,rfl⟩
 have hpa:=Cu;have hn:=uz;have l1:=yT awE [⟨awP,[]⟩] [92,88] [95,65,68,82] (by decide) (by decide);rw[show eS awE [92,88] [95,65,68,82]=some 4 by kernel_rfl] at l1;have l2:=yT awE [⟨awP,[]⟩] [92,88] [88] (by decide) (by decide);rw[show eS awE [92,88] [88]=some 3 by kernel_rfl] at l2;have ho:=Ea awE [⟨awP,[]⟩] 4 (some (dG [92,88,46,95,65,68,82] 13 3 1 3)) rfl;refine FC.walk (by kernel_rfl) Tryz.func12 rfl rfl ?_
 repeat'(first|exact y0|refine y1 ?_|refine y2 ?_ ?_|(refine y8 ?_ ?_<;>intro h<;>try exact y6)|(refine wC ?_;first|refine wF 44 (pu hpa ?_)|(refine wF 10 ?_;refine CallG.me [] hn rfl rfl trivial trivial rfl rfl rfl ?_)|(refine wF 25 ?_;refine CallG.mo [0,1,2,3] hld rfl rfl rfl rfl rfl ⟨VLe.refl _,VLe.refl _,trivial⟩ ⟨⟨rfl,_,rfl,rfl,fun h=>h⟩,⟨rfl,_,rfl,rfl,fun h=>h⟩,⟨rfl,_,rfl,rfl,fun h=>h⟩,⟨rfl,_,rfl,rfl,fun h=>h⟩,trivial⟩ rfl rfl (wr:=[(0,some (bn 4 5 6 5 2)),(1,none),(2,none),(3,none),(4,some (oB awE)),(5,some (pB awE)),(6,some (tB [⟨awP,[]⟩]))]) (by rfl) ?_)|(refine wF 20 ?_;refine CallG.me [0,4,5,6] l1 rfl rfl ⟨VLe.refl _,VLe.refl _,VLe.refl _,trivial⟩ ⟨⟨rfl,_,rfl,rfl,fun h=>h⟩,⟨rfl,_,rfl,rfl,fun h=>h⟩,⟨rfl,_,rfl,rfl,fun h=>h⟩,⟨rfl,_,rfl,rfl,fun h=>h⟩,trivial⟩ rfl rfl rfl ?_)|(refine wF 20 ?_;refine CallG.me [0,4,5,6] l2 rfl rfl ⟨VLe.refl _,VLe.refl _,VLe.refl _,trivial⟩ ⟨⟨rfl,_,rfl,rfl,fun h=>h⟩,⟨rfl,_,rfl,rfl,fun h=>h⟩,⟨rfl,_,rfl,rfl,fun h=>h⟩,⟨rfl,_,rfl,rfl,fun h=>h⟩,trivial⟩ rfl rfl rfl ?_)|(refine wF 27 ?_;refine CallG.me [0,4,5,6] ho rfl rfl ⟨VLe.refl _,VLe.refl _,trivial⟩ ⟨⟨rfl,_,rfl,rfl,fun h=>h⟩,⟨rfl,_,rfl,rfl,fun h=>h⟩,⟨rfl,_,rfl,rfl,fun h=>h⟩,⟨rfl,_,rfl,rfl,fun h=>h⟩,trivial⟩ rfl rfl rfl ?_))|refine y3 ?_|refine y7 ?_ ?_|refine y4 ?_|(refine y9 ?_ ?_<;>intro h)|exact y5|fail)
 refine RegX.atCmp (CmpG.go rfl rfl ⟨⟨by kernel_rfl,by kernel_rfl⟩,trivial⟩ (BrG.any (fun h=>?_) (fun h=>?_)))
 ·
  repeat'(first|exact y0|refine y1 ?_|refine y2 ?_ ?_|(refine y8 ?_ ?_<;>intro h<;>try exact y6)|refine y3 ?_|refine y7 ?_ ?_|refine y4 ?_|(refine y9 ?_ ?_<;>intro h)|exact y5|fail)
  exact Fin.bool (.inl rfl) rfl rfl
 ·exfalso;revert h;decide
end Go.Proofs.YtegjgpldfgjoiaaGreatDoor
namespace Go.Proofs.YtegjgpldfgjoiaaGreatDoor
open Go.RowKit Go.Maps Go.Sort
abbrev EntT:=ByteArray×Int×Int×Int×Int×Int×Int×Int×Int×Int×Int×Int×Int×Int
def nc:EntT->Value
 |(s,z1,p,z3,z4,z5,z6,z7,z8,z9,z10,z11,z12,z13)=> .agg #[.string s,.int .i64 z1,.int .i64 p,.int .i64 z3,.int .i64 z4,.int .i64 z5,.int .u64 z6,.int .u64 z7,.int .i64 z8,.int .i64 z9,.int .i64 z10,.int .i64 z11,.int .i64 z12,.int .i64 z13]
def rC (l:List Value):Option EntT:=
 match l with
 |[.string s,.int .i64 z1,.int .i64 p,.int .i64 z3,.int .i64 z4,.int .i64 z5,.int .u64 z6,.int .u64 z7,.int .i64 z8,.int .i64 z9,.int .i64 z10,.int .i64 z11,.int .i64 z12,.int .i64 z13]=>some (s,z1,p,z3,z4,z5,z6,z7,z8,z9,z10,z11,z12,z13)
 |_=>none
def dF {H:Type} (v:Value):Option (DataW H×List MemPlace):=
 match v with
 | .agg a=>match rC a.toList with|some c=>some (.lit (.int .i64 c.2.2.1),[])|none=>none
 |_=>none
theorem wR {l:List Value} {c:EntT} (h:rC l=some c):.agg l.toArray=nc c:=by
 unfold rC at h;split at h
 ·cases h;rfl
 ·cases h
theorem nf {H:Type} {v:Value} {y:DataW H×List MemPlace} (h:dF v=some y):∃ c:EntT,v=nc c/\y=(.lit (.int .i64 c.2.2.1),[]):=by
 unfold dF at h;split at h
 ·rename_i a
  split at h
  ·rename_i c hc
   cases h;exact⟨c,by rw[<-wR hc],rfl⟩
  ·cases h
 ·cases h
theorem Fh:Keyed Tryz.prog 3:=int_keyed Tryz.underlying3
theorem GJ:(Tryz.prog.info? 3).map (fun i=>(i.zero,i.size,i.bytes))=some (some (.int .i64 0),1,8):=by kernel_rfl
def Chd {H:Type} (D0:DataW H) (id:Int) (left:Lit->Bool) (ss:List Int):Prop:=ss.Nodup/\∀ x,x∈ss↔(has D0 (.int .i64 x)=true/\left (.int .i64 x)=false/\∀ zd,D0.atKey (.int .i64 x) zd=.lit (.int .i64 id))
theorem Chd.start {H:Type} (D0:DataW H) (id:Int):Chd D0 id (has D0) []:=⟨List.nodup_nil,fun x=>by cases has D0 (.int .i64 x)<;>simp⟩
theorem Chd.step {H:Type} {D0:DataW H} {id:Int} {left:Lit->Bool} {ss:List Int} (h:Chd D0 id left ss) {x p:Int} (hlk:left (.int .i64 x)=true) (hat:∀ zd,D0.atKey (.int .i64 x) zd=.lit (.int .i64 p)):
 Chd D0 id (fun z=>left z&& !z.sameKey (.int .i64 x)) (if p=id then ss++[x] else ss):=by
 have hhas:has D0 (.int .i64 x)=true:=has_true_of_atKey hat
 have hnew:x∉ss:=fun hx=>by have:=((h.2 x).1 hx).2.1;rw[hlk] at this;cases this
 have same:∀ y:Int,(Lit.int .i64 y).sameKey (.int .i64 x)=decide (y=x):=fun y=>by simp[Lit.sameKey]
 split
 ·rename_i hp
  subst hp;refine⟨List.nodup_append.2 ⟨h.1,by simp,fun a ha b hb=>by simp at hb;subst hb;exact fun e=>hnew (e▸ha)⟩,fun y=>?_⟩;by_cases hy:y=x
  ·subst hy;simp[hhas,hat,same]
  ·simp[h.2 y,hy,same]
 ·rename_i hp
  refine⟨h.1,fun y=>?_⟩;by_cases hy:y=x
  ·subst hy
   simp only[hnew,false_iff,not_and];intro _ _ hz;have:=(hat (.lit (.int .i64 0))).symm.trans (hz _);simp at this;exact hp this
  ·simp[h.2 y,hy,same]
set_option maxRecDepth 100000 in
set_option maxHeartbeats 2000000 in
theorem pw {H:Type} (bs os b n:Nat) (id:Int) (D0:DataW H) (w:World)
 (hsort:∀ m,(∀ (blk off cap:Nat) (ss:List Int) (W:World),Holds encZ W blk off ss.toArray->blk<W.heap.size->ss.length<4611686018427387904->
   CallsIn Fence.wide m Tryz.prog 74 #[.slice (some ⟨blk,off,none⟩) ss.length cap] W fun e w'=>e=.returned (.tuple #[])/\∃ k os,w'=grow (putRow encZ (Sort.ahead W k) blk off (ss.mergeSort fun x y=>decide (x<=y)).toArray) os)/\
   (∀ (p:Option Addr) (cap:Nat) (W:World),CallsIn Fence.wide m Tryz.prog 74 #[.slice p 0 cap] W fun e w'=>e=.returned (.tuple #[])/\w'=W))
 (hcell:w.cell? ⟨bs,os,none⟩=some (.map (some b))) (hbs:bs<w.heap.size) (hown:w.ownsMap Tryz.prog 3 dF b n D0) (hhas:has D0 (.int .i64 id)=true) (hwf:(Lit.int .i64 id).wf=true) (hmax:Maps.size D0<=maxLen) (hbytes:Maps.size D0*8<=140737488355328):
 CallsIn Fence.wide 8 Tryz.prog 29 #[.pointer (some ⟨bs,os,none⟩),.int .i64 id] w fun e w'=>∃ (v:Value) (ss:List Int),e=.returned v/\Chd D0 id (fun _=>false) ss/\
  w'.ownsRow w.heap.size 3 1 v ss.length ((ss.mergeSort (fun x y=>decide (x<=y))).map encZ)/\(v=.slice none 0 0↔ss=[])/\Below w.heap.size w w':=by
 obtain⟨i0,hi,hz0,hz1,hz2⟩:=info_parts GJ;have hbl:=hown.lt
 have hkey:keyOf Tryz.prog 3 (.int .i64 id)=some (.int .i64 id):=by simp[keyOf,Tryz.underlying3,mapKey,hwf]
 obtain⟨v0,ps0,hlook,hv0⟩:=hown.look_ok Fh Tryz.underlying76 (Tryz.zeroValue86 w) (zd:=.lit (.int .i64 0)) (zp:=[]) rfl hkey;rw[hhas] at hlook;obtain⟨⟨a0,a1,ap,a3,a4,a5,a6,a7,a8,a9,a10,a11,a12,a13⟩,rfl,_⟩:=nf hv0;rename_i hq0;clear hv0 hq0;simp only[nc] at hlook;refine callsIn_of_wp Tryz.func29 rfl trivial ?_ rfl;simp only[Tryz.ntmps29,List.size_toArray,List.length_cons,List.length_nil,Nat.reduceAdd,Nat.reduceSub,Array.replicate_succ,Array.replicate_zero,List.push_toArray,List.append_toArray,List.nil_append,List.cons_append]
 gi_wp2_with (first
  |(gi_at_range;refine wpListIn_range_own _ rfl _ 76 rfl 3 86 Fh Tryz.underlying76 _ b n _ rfl (hown.kept (World.grownBy_alloc w _ none) (by simp)) ?_;intro w0 hrg0 hg0 hs0)
  |gi_in)
 obtain⟨rr,hrr⟩:∃ rr,rr=(w.alloc (.cells #[.string a0,.int .i64 a1,.int .i64 ap,.int .i64 a3,.int .i64 a4,.int .i64 a5,.int .u64 a6,.int .u64 a7,.int .i64 a8,.int .i64 a9,.int .i64 a10,.int .i64 a11,.int .i64 a12,.int .i64 a13] 86)).heap.size:=⟨_,rfl⟩
 rw[<-hrr] at hrg0 |-
 have hrl:w.heap.size<=rr:=by rw[hrr];simp
 clear hrr;have hfS:Fence.wide.fn 74:=trivial
 go_frame
 gi_loopw [5] (fun v wr=>∃ (left:Lit->Bool) (cnt:Nat) (ss:List Int),wr.ranges Tryz.prog 3 dF b rr n D0 left cnt/\ss.length+cnt<=Maps.size D0/\
  wr.ownsRow w.heap.size 3 1 v ss.length (ss.map encZ)/\(v=.slice none 0 0↔ss=[])/\Chd D0 id left ss/\Below w.heap.size w wr)
  (fun _ wr=>wr.rangeLeft b rr)
 case atStart=>
  exact⟨_,_,[],hrg0,by simp,⟨by simp,.inl ⟨rfl,rfl⟩⟩,by simp,Chd.start D0 id,((Below.refl _ _).alloc (Nat.le_refl _) _).grown hg0 (by simp) (fun j hj=>by cases hj)⟩
 case round=>
  obtain⟨left,cnt,ss,hrg,hcs,hrow,hnn,hC,hnx⟩:=hrel
  gi_wp2_with (first
   |(gi_at_next;refine wpListIn_next_ranges _ rfl _ rfl 3 Fh dF encZ nc (fun key kl hk=>by obtain⟨x,hx,_⟩:=Maps.keyOf_i64 Tryz.underlying3 hk;exact⟨x,hx⟩) (fun v y hv=>by obtain⟨c,rfl,_⟩:=nf hv;exact⟨c,rfl⟩) b rr n _ _ _ rfl hrg ?_ ?_)
   |gi_in)
  ·intro hc0 hl0
   have hCe:Chd D0 id (fun _=>false) ss:=⟨hC.1,fun x=>by rw[hC.2 x,hl0]⟩
   rcases hrow.2 with ⟨hnil,hz⟩|⟨g,cap,cur,hv,hbase,hb,h1,h2,h3,h4⟩
   ·have hss:=hnn.1 hnil
    subst hss;subst hnil;have hc:=(hsort 7).2 none 0 wr
    gi_wp2_with (gi_at_call 74;refine hc.mono ?_;rintro e w' ⟨rfl,rfl⟩)
    go_ret
    exact⟨.slice none 0 0,[],rfl,hCe,by simpa using hrow,by simp,hnx⟩
   ·subst hv
    have hH:Holds encZ wr g 0 ss.toArray:=holds_of_block_i hb (by simpa using h4);have hgl:g<wr.heap.size:=(Array.getElem?_eq_some_iff.1 hb).1;have hc:=(hsort 7).1 g 0 cap ss wr hH hgl (by unfold maxLen at hmax;omega)
    gi_wp2_with (gi_at_call 74;refine hc.mono ?_;rintro e w' ⟨rfl,nn,os,rfl⟩)
    go_ret
    exact⟨_,ss,rfl,hCe,ownsRow_sorted_i (by simp) hbase hb h1 h2 h3,hnn,hnx.grown (grownBy_sorted_i _) hnx.size (fun j hj=>by cases hj;exact hbase)⟩
  ·intro x c0 c1 cp c3 c4 c5 c6 c7 c8 c9 c10 c11 c12 c13 kl yd yp w2 cnt2 hkey hlk hv hat hrg2 hlt hg2 hs2 hen
   obtain⟨x',ex,rfl,_⟩:=Maps.keyOf_i64 Tryz.underlying3 hkey;obtain rfl:x=x':=encZ_inj ex;simp only[dF,nc,rC,Option.some.injEq,Prod.mk.injEq] at hv;obtain⟨rfl,rfl⟩:=hv;simp only[nc] at hen;have hrow2:=hrow.kept hg2 (Or.inr (row_ne_iter hrow hrg).symm);clear hs2;have hnxs:=hnx.size;have hgsz:=hg2.size
   gi_wp2_with (first
    |(gi_at_builtin;refine wpListIn_append_own _ rfl _ _ 22 rfl w.heap.size 3 i0 (.int .i64 0) 1 8 Tryz.underlying22 hi hz0 hz1 hz2 rfl (by decide) _ _ _ rfl ((hrow2.alloc _).alloc _) ⟨w2.heap.size+1,0,none⟩ 1 1 [encZ x] rfl rfl (by simpa using cell_one_new (w2.alloc _) _ _) (by simp[Value.oneCell',encZ]) (by unfold maxLen at*;omega) (by omega) (by simp;omega) ?_;intro v' w3 hown' hg3 hnil3;go_frame)
    |gi_in)
   ·have hcp:cp=id:=by simpa using ‹(cp==id)=true›
    have hst:=hC.step hlk hat;rw[if_pos hcp] at hst;have hrg3:=((hrg2.alloc _).alloc _).kept hg3 (row_ne_low hrow2 hbl) (row_ne_iter hrow2 hrg2);refine⟨⟨_,cnt2,ss++[x],hrg3,by simp;omega,by simpa using hown',by rw[hnil3];simp,hst,?_⟩,by rw[hrg3.left_eq,hrg.left_eq];exact hlt⟩;exact (((hnx.grown hg2 hnx.size (fun j hj=>by cases hj;exact hrl)).alloc (by omega) _).alloc (by simp;omega) _).grown hg3 (by simp;omega) (fun j hj=>(hrow2.lt j hj).1)
   ·have hcp: ¬cp=id:=by simpa using ‹(cp==id)=false›
    have hst:=hC.step hlk hat;rw[if_neg hcp] at hst;refine⟨⟨_,cnt2,ss,hrg2.alloc _,by omega,hrow2.alloc _,hnn,hst,(hnx.grown hg2 hnx.size (fun j hj=>by cases hj;exact hrl)).alloc (by omega) _⟩,by rw[(hrg2.alloc _).left_eq,hrg.left_eq];exact hlt⟩
end Go.Proofs.YtegjgpldfgjoiaaGreatDoor
namespace Go.Proofs.YtegjgpldfgjoiaaGreatDoor
open Go.RowKit Go.Maps Go.Sort Go.Shelf
theorem nW (m:Nat):AnyZI.SortsIn Tryz.prog Tryz.sortedA_ren Fence.wide m:=
 ⟨fun blk off cap ss W hH hblk hsz=>callsIn_wide.2 (AnyM.slices_Sort_int Tryz.sortA blk off cap ss W hH hblk hsz),
  fun p cap W=>callsIn_wide.2 (AnyM.slices_Sort_int_none Tryz.sortA p cap W)⟩
theorem CM {H:Type} (bs os b n:Nat) (id:Int) (D0:DataW H) (w:World) (hcell:w.cell? ⟨bs,os,none⟩=some (.map (some b))) (hbs:bs<w.heap.size) (hown:w.ownsMap Tryz.prog 3 dF b n D0) (hhas:has D0 (.int .i64 id)=true)
 (hwf:(Lit.int .i64 id).wf=true) (hmax:Maps.size D0<=maxLen) (hbytes:Maps.size D0*8<=140737488355328):
 Calls Tryz.prog 29 #[.pointer (some ⟨bs,os,none⟩),.int .i64 id] w fun e w'=>∃ (v:Value) (ss:List Int),e=.returned v/\Chd D0 id (fun _=>false) ss/\
  w'.ownsRow w.heap.size 3 1 v ss.length ((ss.mergeSort (fun x y=>decide (x<=y))).map encZ)/\(v=.slice none 0 0↔ss=[])/\Below w.heap.size w w':=
 (callsIn_wide (n:=8)).1 (pw bs os b n id D0 w (fun m=>⟨(nW m).1,(nW m).2⟩) hcell hbs hown hhas hwf hmax hbytes)
set_option maxRecDepth 100000 in
set_option maxHeartbeats 2000000 in
theorem lw {H:Type} (bs os b nn:Nat) (D0:DataW H) (R:Value->Option (DataW H×List MemPlace)) (w:World) (hcell:w.cell? ⟨bs,os,none⟩=some (.map (some b))) (hown:w.ownsMap Tryz.prog 3 R b nn D0) (hmax:Maps.size D0<=maxLen) (hbytes:Maps.size D0*8<=140737488355328):
 Calls Tryz.prog 26 #[.pointer (some ⟨bs,os,none⟩)] w fun e w'=>∃ (v:Value) (ss:List Int),e=.returned v/\ss.Perm (intKeys D0)/\
  w'.ownsRow w.heap.size 3 1 v ss.length ((ss.mergeSort (fun x y=>decide (x<=y))).map encZ)/\(v=.slice none 0 0↔ss=[])/\Below w.heap.size w w':=by
 refine (callsIn_wide (n:=6)).1 ?_;have hbl:=hown.lt
 have hseq:SeqGives Fence.wide 2 Tryz.prog 131 #[.pointer (some ⟨w.heap.size,0,none⟩)] encZ (fun ss=>ss.Perm (intKeys D0)) (Maps.size D0) (w.alloc (.cells #[.map (some b)] 76)):=
  AnyZI.keys_gives (ρ:=Tryz.keysA_ren) {Tryz.keysA with} Fence.wide _ trivial rfl (by omega) w.heap.size b nn D0 _ (by simp) (by simp) (by
   obtain⟨es,clock,hb,Ft,hs,hD⟩:=hown
   exact⟨es,clock,(Below.heap_alloc _ _ b hbl).trans hb,Ft,hs,hD⟩)
 have cK:∀ mb W,CallsIn Fence.wide 5 Tryz.prog 72 #[.map mb] W fun e w'=>e=.returned (.func (.func 131) #[] #[.pointer (some ⟨W.heap.size,0,none⟩)])/\w'=W.alloc (.cells #[.map mb] 76):=fun mb W=>AnyZI.keys_in Tryz.keysA Fence.wide 5 trivial rfl mb W
 have cS:=AnyZI.sorted_in Tryz.sortedA Fence.wide 5 trivial trivial trivial trivial rfl (by omega) (nW _) (enters_of Tryz.func74 (by kernel_rfl) rfl) 131 #[.pointer (some ⟨w.heap.size,0,none⟩)] trivial (enters_of Tryz.func131 (by kernel_rfl) rfl) _ _ hmax hbytes _ hseq;change CallsIn _ _ Tryz.prog 71 _ _ _ at cS;have hfK:Fence.wide.fn 72:=trivial;have hfS:Fence.wide.fn 71:=trivial;refine callsIn_of_wp Tryz.func26 rfl trivial ?_ rfl;simp only[Tryz.ntmps26,List.size_toArray,List.length_cons,List.length_nil,Nat.reduceAdd,Nat.reduceSub,Array.replicate_succ,Array.replicate_zero,List.push_toArray,List.append_toArray,List.nil_append,List.cons_append]
 gi_wp2_with (first
  |(gi_at_call 72;refine (cK _ _).mono ?_;rintro e w' ⟨rfl,rfl⟩)
  |(gi_at_call 71;refine cS.mono ?_;rintro e w' ⟨v,ss,rfl,hS,hrow,hnil,hb⟩)
  |gi_in)
 go_ret
 exact⟨v,ss,rfl,hS,ownsRow_base_a hrow (by simp),hnil,((Below.refl _ w).alloc (Nat.le_refl _) _).trans (hb.mono (by simp))⟩
end Go.Proofs.YtegjgpldfgjoiaaGreatDoor
namespace Go.Proofs.YtegjgpldfgjoiaaGreatDoor
open Go Ab Go.RowKit Go.Maps Go.Sort Go.Shelf
set_option maxRecDepth 100000
theorem nX {l ss:List Int} (h:ss.Perm l) (hl:l.Pairwise (·<=·)):ss.mergeSort (fun x y=>decide (x<=y))=l:=by
 have tr:∀ a b c:Int,decide (a<=b)=true->decide (b<=c)=true->decide (a<=c)=true:=fun a b c h1 h2=>by simp only[decide_eq_true_eq] at*;omega
 have to:∀ a b:Int,(decide (a<=b)||decide (b<=a))=true:=fun a b=>by simp only[Bool.or_eq_true,decide_eq_true_eq];omega
 refine List.Perm.eq_of_pairwise (le:=fun a b=>decide (a<=b)=true) (fun a b _ _ h1 h2=>?_) (List.pairwise_mergeSort tr to ss) (hl.imp fun h=>by simpa using h) ((List.mergeSort_perm ss _).trans h);simp only[decide_eq_true_eq] at h1 h2;omega
def bN (s:Int):List Ent->List (Int×Int)
 |[]=>[]
 |x::t=>(s,x.par)::bN (s+1) t
theorem dU:∀ (E:List Ent) (s:Int),(bN s E).length=E.length
 |[],_=>rfl
 |x::t,s=>by simp[bN,dU t]
theorem pZ:∀ (E:List Ent) (s:Int) (r:Int×Int),r∈bN s E->s<=r.1/\r.1<s+E.length
 |[],_,r,h=>by cases h
 |x::t,s,r,h=>by
  rcases List.mem_cons.1 h with rfl|h
  ·simp only[List.length_cons];omega
  ·have:=pZ t (s+1) r h
   simp only[List.length_cons];omega
theorem cL:∀ (E:List Ent) (s:Int),((bN s E).map (·.1)).Pairwise (·<·)
 |[],_=>List.Pairwise.nil
 |x::t,s=>by
  rw[bN,List.map_cons];refine List.pairwise_cons.2 ⟨fun z hz=>?_,cL t (s+1)⟩;obtain⟨r,hr,rfl⟩:=List.mem_map.1 hz;have:=pZ t (s+1) r hr;omega
abbrev Rel:=Value->Option (DataW Unit×List MemPlace)
def Gb (R:Rel) (r:Int×Int) (m:MapEntry):Prop:=m.key=.int .i64 r.1/\(-9223372036854775808<=r.1/\r.1<=9223372036854775807)/\R m.val=some (.lit (.int .i64 r.2),[])
theorem vc {φ:Ph} {x:Ent} {v:Value} (h:VO φ true (cf x) v):dF (H:=Unit) v=some (.lit (.int .i64 x.par),[]):=by
 obtain⟨ys,rfl,ha⟩:=h
 match ys,ha with
 |[y0,y1,y2,y3,y4,y5,y6,y7,y8,y9,y10,y11,y12,y13],⟨h0,h1,h2,h3,h4,h5,h6,h7,h8,h9,h10,h11,h12,h13,_⟩=>
  simp only[Sr] at h0 h1 h2 h3 h4 h5 h6 h7 h8 h9 h10 h11 h12 h13;subst h0;subst h1;subst h2;subst h3;subst h4;subst h5;subst h6;subst h7;subst h8;subst h9;subst h10;subst h11;subst h12;subst h13;simp[dF,Gd,rC]
theorem pY {φ:Ph}:∀ (E:List Ent) (b:Nat) (s:Int) (M:List MapEntry),EntsR φ kdI true cf (enI b s E) M->0<=s->s+E.length<=1000000->All2 (Gb dF) (bN s E) M/\M.map (·.born)=List.range' b E.length
 |[],b,s,[],_,_,_=>⟨trivial,rfl⟩
 |[],b,s,_::_,h,_,_=>h.elim
 |x::t,b,s,[],h,_,_=>h.elim
 |x::t,b,s,m::M,⟨⟨h1,h2,h3⟩,h4⟩,h0,hl=>by
  simp only[List.length_cons] at hl;obtain⟨i1,i2⟩:=pY t (b+1) (s+1) M h4 (by omega) (by omega);refine⟨⟨⟨h1,by simp only;omega,vc h3⟩,i1⟩,?_⟩;rw[List.map_cons,i2,h2];rfl
theorem Fi {z:Int} (h1: -9223372036854775808<=z) (h2:z<=9223372036854775807):keyOf Tryz.prog 3 (.int .i64 z)=some (.int .i64 z):=by
 have hw:(Lit.int .i64 z).wf=true:=by
  simp only[Lit.wf,Bool.and_eq_true,decide_eq_true_eq];exact⟨by simpa [IntKind.min,IntKind.bits,IntKind.signed] using h1,by simpa [IntKind.max,IntKind.bits,IntKind.signed] using h2⟩
 simp[keyOf,Tryz.underlying3,mapKey,hw]
def fX (r:Int×Int):Lit×DataW Unit:=(.int .i64 r.1,.lit (.int .i64 r.2))
theorem od {R:Rel}:∀ {rs:List (Int×Int)} {ms:List MapEntry},All2 (Gb R) rs ms->ms.map (WideElems.rg Tryz.prog 3 R)=rs.map fX/\(ms.map (·.key)=rs.map fun r=>Value.int .i64 r.1)/\∀ x∈ms,∃ y,WideElems.rd Tryz.prog 3 R x=some y
 |[],[],_=>⟨rfl,rfl,fun x hx=>by cases hx⟩
 |r::rs,m::ms,h=>by
  obtain⟨i1,i2,i3⟩:=od h.2;obtain⟨hk,⟨k1,k2⟩,hv⟩:=h.1
  have hrd:WideElems.rd Tryz.prog 3 R m=some (fX r):=by simp[WideElems.rd,hk,Fi k1 k2,hv,fX]
  refine⟨by simp[WideElems.rg,hrd,i1],by simp[hk,i2],fun x hx=>?_⟩
  rcases List.mem_cons.1 hx with rfl|hx
  ·exact⟨_,hrd⟩
  ·exact i3 x hx
 |[],_::_,h=>h.elim
 |_::_,[],h=>h.elim
def cV (rs:List (Int×Int)):DataW Unit:=.map ((rs.map fX).foldr DataW.insert [])
theorem io (rs:List (Int×Int)):Maps.size (cV rs)=rs.length:=by
 show ((rs.map fX).foldr DataW.insert []).length=_;rw[(WideShapes.sorted_perm _).length_eq];simp
theorem nZ (x y:Int):(Lit.int .i64 x).sameKey (.int .i64 y)=decide (x=y):=by simp[Lit.sameKey]
theorem jK (rs:List (Int×Int)) (x:Int):Maps.has (cV rs) (.int .i64 x)=true↔x∈rs.map (·.1):=by
 show (((rs.map fX).foldr DataW.insert []).any fun p=>p.1.sameKey (.int .i64 x))=true↔_;rw[List.any_eq_true];constructor
 ·rintro⟨p,hp,hs⟩
  obtain⟨r,hr,rfl⟩:=List.mem_map.1 ((WideShapes.sorted_perm _).mem_iff.1 hp);rw[fX,nZ] at hs;exact List.mem_map.2 ⟨r,hr,of_decide_eq_true hs⟩
 ·intro hx
  obtain⟨r,hr,rfl⟩:=List.mem_map.1 hx;exact⟨fX r,(WideShapes.sorted_perm _).mem_iff.2 (List.mem_map.2 ⟨r,hr,rfl⟩),by rw[fX,nZ];simp⟩
theorem rM {rs:List (Int×Int)} (hn:(rs.map (·.1)).Nodup) {r:Int×Int} (hr:r∈rs) (zd:DataW Unit):(cV rs).atKey (.int .i64 r.1) zd=.lit (.int .i64 r.2):=by
 unfold cV DataW.atKey;have hin:fX r∈(rs.map fX).foldr DataW.insert []:=(WideShapes.sorted_perm _).mem_iff.2 (List.mem_map.2 ⟨r,hr,rfl⟩)
 cases hq:((rs.map fX).foldr DataW.insert []).find? (fun p=>p.1.sameKey (.int .i64 r.1)) with
 |none=>
  have:=List.find?_eq_none.1 hq _ hin;simp only[fX,nZ] at this;simp at this
 |some p=>
  have h1:=List.find?_some hq;have h2:=List.mem_of_find?_eq_some hq;obtain⟨r',hr',rfl⟩:=List.mem_map.1 ((WideShapes.sorted_perm _).mem_iff.1 h2);simp only[fX,nZ,decide_eq_true_eq] at h1
  have:r'=r:=by
   have hp:rs.Pairwise (fun a b=>a.1≠b.1):=List.pairwise_map.1 hn;clear hq h2 hin
   induction rs with
   |nil=>cases hr
   |cons q t ih=>
    have hp':=List.pairwise_cons.1 hp
    rcases List.mem_cons.1 hr with e|hx<;>rcases List.mem_cons.1 hr' with e'|hx'
    ·exact e'.trans e.symm
    ·exact absurd (by rw[<-e];exact h1.symm) (hp'.1 r' hx')
    ·exact absurd (by rw[<-e'];exact h1) (hp'.1 r hx)
    ·exact ih (List.nodup_cons.1 (by simpa using hn)).2 hx hx' hp'.2
  subst this;simp only[hq,fX]
theorem wa {rs:List (Int×Int)} (h:(rs.map (·.1)).Nodup) (p:Int×Int->Bool):((rs.filter p).map (·.1)).Nodup:=
 List.pairwise_map.2 ((List.pairwise_map.1 h).filter _)
theorem EX {φ:Ph} {w:World} {b:Nat} {E:List Ent} {M:List MapEntry} {ck:Nat} (hE:E.length<=1024) (hm:w.heap[b]? =some (.map M.toArray ck)) (hM:EntsR φ kdI true cf (enI 0 0 E) M) (hck:ck=E.length):w.ownsMap Tryz.prog 3 dF b E.length (cV (bN 0 E)):=by
 obtain⟨r1,r2⟩:=pY E 0 0 M hM (Int.le_refl _) (by omega);obtain⟨g1,g2,g3⟩:=od r1
 have hl:M.length=E.length:=by have:=r1.len;rw[dU] at this;exact this
 refine⟨M.toArray,ck,hm,⟨?_,⟨?_,?_,?_⟩,by simpa using g3⟩,by simp[hl],by simp only[cV,<-g1]⟩
 ·simp only[List.size_toArray];unfold maxLen;omega
 ·intro x hx
  have:x.born∈M.map (·.born):=List.mem_map.2 ⟨x,by simpa using hx,rfl⟩;rw[r2] at this;have:=List.mem_range'_1.1 this;omega
 ·show (M.toArray.toList.map (·.born)).Nodup
  rw[show M.toArray.toList=M by simp,r2];exact List.nodup_range'
 ·show (M.toArray.toList.map (·.key)).Nodup
  rw[show M.toArray.toList=M by simp,g2];refine List.pairwise_map.2 ((List.pairwise_map.1 (cL E 0)).imp fun h e=>?_);have:_=_:=e;simp only[Value.int.injEq,true_and] at this;omega
set_option maxRecDepth 100000
theorem vp (φ:Ph):∀ K:List Int,All2 (Sr φ) (K.map fun z=>S.int .i64 z) (K.map encZ)
 |[]=>trivial
 |z::t=>⟨rfl,vp φ t⟩
theorem BX {n g cap i:Nat} (hi:n+2<=i):(fun i=>if i=n then some (g,0) else if i=n+1 then some (cap,0) else (none:Option (Nat×Nat))) i=none:=by
 have h1: ¬i=n:=by omega
 have h2: ¬i=n+1:=by omega
 simp[h1,h2]
theorem SC.rowI {P:Program} {f:FuncId} {args:List V} {n:Nat} {L:Hp} (K:List Int) (hL:∀ i,n<=i->lk L i=none)
 (h:∀ (φ:Ph) (xs:List Value) (w:World),All2 (Vr φ) args xs->Ab.Good φ L w->Calls P f xs.toArray w fun e w'=>∃ v,e=.returned v/\w'.ownsRow w.heap.size 3 1 v K.length (K.map encZ)/\(v=.slice none 0 0↔K=[])/\RowKit.Below w.heap.size w w'):
 SC P f args n L (.s (.row n (n+1) K.length)) (n+2) (put L n (unB n K)):=by
 by_cases hK:K=[]
 ·subst hK
  intro φ xs w h1 h2 h3;refine Calls.mono (h φ xs w h1 h2) ?_;rintro e w' ⟨v,rfl,_,hn,hb⟩;have hv:=hn.2 rfl
  have old:∀ i bl,lk (put L n (unB n [])) i=some bl->lk L i=some bl:=fun i bl hi=>by
   rw[ax] at hi;split at hi
   ·cases hi
   ·exact hi
  have g2:Ab.Good φ (put L n (unB n [])) w:=h2.sub old;refine⟨φ,v,rfl,.inl ⟨rfl,hv⟩,⟨fun i bl hi=>?_,g2.inj,fun b l hb'=>⟨?_,(g2.fz b l hb').2⟩,h2.gz⟩,fun i hi=>h3 i (by omega),⟨hb.os,hb.tape,hb.output,hb.size,fun b hb' _=>hb.block b hb',fun j bl b hj hp hlt=>⟨j,bl,b,old j bl hj,hp,rfl,id,.inl rfl⟩,fun _ _ h=>h,fun _ _ h=> .inl h⟩,by omega,fun _ _=>rfl⟩
  ·obtain⟨b,hb1,hat⟩:=h2.hr i bl (old i bl hi)
   exact⟨b,hb1,hat.mono (Ph.le_refl _) (hb.block _ hat.lt)⟩
  ·rw[hb.block b (h2.fzlt hb')];exact (h2.fz b l hb').1
 ·have hun:unB n K=some {cells:=K.map fun z=>S.int .i64 z,ty:=3,more:=true,sym:=true,flat:=true,gh:=some (n+1,1)}:=eO (by intro e;exact hK (List.map_eq_nil_iff.1 e))
  rw[hun]
  refine SC.fresh _ hL (by omega) fun φ xs w h1 h2=>Calls.mono (h φ xs w h1 h2) ?_
  rintro e w' ⟨v,rfl,hrow,hn,hb⟩
  rcases hrow.2 with ⟨hnil,_⟩|⟨g,cap,cur,hv,hbase,hheap,r1,r2,r3,r4⟩
  ·exact absurd (hn.1 hnil) hK
  ·refine⟨g,fun i=>if i=n then some (g,0) else if i=n+1 then some (cap,0) else none,v,rfl,hb,hbase,if_pos rfl,fun i hi=>BX hi,fun φ' hle hc=>?_⟩
   have hφn:φ' n=some (g,0):=by rw[hc n (Nat.le_refl _)];exact if_pos rfl
   have hφ1:φ' (n+1)=some (cap,0):=by rw[hc (n+1) (by omega)];simp
   have hcur:cur.toList=K.map encZ++cur.toList.drop K.length:=by
    have:=List.take_append_drop K.length cur.toList;rw[Nat.mul_one] at r4;rw[r4] at this;exact this.symm
   refine⟨.inr ⟨List.length_pos_iff.2 hK,(g,0),cap,hφn,hφ1,hv,r1⟩,[],K.map encZ,cur.toList.drop K.length,(0,0),?_,rfl,vp _ K,fun h=>(by cases h),fun _ o _=>(by simp),fun g' z' e=>?_,fun g' e=>(by cases e)⟩
   ·show w'.heap[g]? =some (.cells ([]++(K.map encZ++cur.toList.drop K.length)).toArray 3 (0,0))
    rw[List.nil_append,<-hcur];simpa using hheap
   ·cases e
    refine⟨cap,hφ1,?_⟩;rw[<-hcur];simp[r3]
theorem DU {φ:Ph} {w:World} {E:List Ent} {T:List Tb} (hE:E.length<=1024) (hg:Ab.Good φ (spL E T) w) {b:Nat×Nat} (hb:φ 0=some b):
 ∃ bm,w.cell? ⟨b.1,0+b.2,none⟩=some (.map (some bm))/\b.1<w.heap.size/\w.ownsMap Tryz.prog 3 dF bm E.length (cV (bN 0 E)):=by
 obtain⟨b',hb',hat⟩:=hg.hr 0 (bn 1 2 3 (E.length:Nat) (1+(T.length:Int))) rfl;rw[hb] at hb';cases hb';have hlt:=hat.lt;obtain⟨pre,xs,rest,fr,h1,hp,h2,_⟩:=hat;simp only[bC] at h1;obtain⟨y,hy,hyr⟩:=h2.get (i:=0) rfl;have hyr:=Sr.mono (Bl.ph_le_self _ φ) hyr;obtain⟨q,hq,hq2,rfl⟩:=hyr;obtain⟨q',hq',hatm⟩:=hg.hr 1 (oB E) rfl;rw[hq] at hq';cases hq';obtain⟨M,hm,hM⟩:=ge (r:=false) bq hatm hq2;refine⟨q.1,?_,hlt,EX hE hm hM rfl⟩;simp only[World.cell?,h1]
 have hoc:0<xs.length:=by
  rcases Nat.lt_or_ge 0 xs.length with e|e
  ·exact e
  ·rw[List.getElem?_eq_none (by omega)] at hy;cases hy
 simp only[Option.isSome_none,Bool.false_eq_true,if_false,List.getElem?_toArray];rw[List.getElem?_append_right (by omega),show 0+b.2-pre.length=0 by omega,List.getElem?_append_left hoc];exact hy
def co (s:Int):Nat->List Int
 |0=>[]
 |n+1=>s::co (s+1) n
theorem dC:∀ (n:Nat) (s:Int),(co s n).length=n
 |0,_=>rfl
 |n+1,s=>by simp[co,dC n]
theorem g_:∀ (E:List Ent) (s:Int),(bN s E).map (·.1)=co s E.length
 |[],_=>rfl
 |x::t,s=>by rw[bN,List.map_cons,g_ t];rfl
theorem ul {E:List Ent} {T:List Tb} (i:Nat) (hi:4<=i):lk (spL E T) i=none:=by
 unfold spL;rw[ak,if_neg (by omega),ak,if_neg (by omega),ak,if_neg (by omega),ak,if_neg (by omega)];rfl
theorem ju (E:List Ent) (T:List Tb) (hE:E.length<=1024):FC Tryz.prog 26 [.s (.ptr (some (0,0)))] 4 (spL E T) (.s (.row 4 5 E.length)) 6 (put (spL E T) 4 (unB 4 (co 0 E.length))):=by
 refine⟨by kernel_rfl,?_⟩;have hk:=g_ E 0
 have:=SC.rowI (P:=Tryz.prog) (f:=26) (args:=[.s (.ptr (some (0,0)))]) (n:=4) (L:=spL E T) (co 0 E.length) ul fun φ xs w ha hg=>?_
 ·rw[dC] at this;exact this
 match xs,ha with
 |[x],⟨h1,_⟩=>
  obtain⟨b,hb,hx⟩:=h1;subst hx;obtain⟨bm,g1,g2,g3⟩:=DU hE hg hb
  have hsz:Maps.size (cV (bN 0 E))=E.length:=by rw[io,dU]
  refine Calls.mono (lw b.1 (0+b.2) bm E.length (cV (bN 0 E)) dF w g1 g3 (by rw[hsz];unfold maxLen;omega) (by rw[hsz];omega)) ?_;rintro e w' ⟨v,ss,rfl,hC,hrow,hn,hbw⟩
  have hperm:ss.Perm (co 0 E.length):=by
   refine hC.trans ?_;simp only[cV,intKeys];refine ((WideShapes.sorted_perm ((bN 0 E).map fX)).map _).trans ?_;rw[List.map_map,<-hk];exact List.Perm.refl _
  have hs:=nX hperm (by rw[<-hk];exact (cL E 0).imp fun h=>by omega)
  have hlen:(co 0 E.length).length=ss.length:=by rw[<-hs];simp
  refine⟨v,rfl,by rw[hlen,<-hs];exact hrow,?_,hbw⟩;rw[hn,<-hs];constructor
  ·rintro rfl;simp
  ·intro e;exact List.eq_nil_of_length_eq_zero (by rw[<-hlen,<-hs,e];rfl)
def cM (E:List Ent) (id:Int):List Int:=((bN 0 E).filter fun r=>decide (r.2=id)).map (·.1)
theorem zk (E:List Ent) (T:List Tb) (hE:E.length<=1024) (id:Nat) (hid:id<E.length):FC Tryz.prog 29 [.s (.ptr (some (0,0))),nI id] 4 (spL E T) (.s (.row 4 5 (cM E id).length)) 6 (put (spL E T) 4 (unB 4 (cM E id))):=by
 refine⟨by kernel_rfl,?_⟩
 have hnd:((bN 0 E).map (·.1)).Nodup:=(cL E 0).imp fun h e=>by omega
 refine SC.rowI (cM E id) ul fun φ xs w ha hg=>?_
 match xs,ha with
 |[x,y],⟨h1,h2,_⟩=>
  obtain⟨b,hb,hx⟩:=h1;have hy:y=.int .i64 (id:Int):=h2;subst hx;subst hy;obtain⟨bm,g1,g2,g3⟩:=DU hE hg hb
  have hsz:Maps.size (cV (bN 0 E))=E.length:=by rw[io,dU]
  have hmem:((id:Nat):Int)∈(bN 0 E).map (·.1):=by
   rw[g_]
   have key:∀ (n:Nat) (s:Int) (k:Nat),k<n->s+(k:Int)∈co s n:=by
    intro n
    induction n with
    |zero=>intro s k hk;omega
    |succ n ih=>
     intro s k hk
     cases k with
     |zero=>simp[co]
     |succ k=>
      have:=ih (s+1) k (by omega);rw[co];refine List.mem_cons_of_mem _ ?_
      rwa [show s+((k+1:Nat):Int)=s+1+(k:Int) by omega]
   have:=key E.length 0 id hid
   rwa [Int.zero_add] at this
  have hhas:=(jK (bN 0 E) (id:Int)).2 hmem
  have hwf:(Lit.int .i64 (id:Int)).wf=true:=by
   simp only[Lit.wf,Bool.and_eq_true,decide_eq_true_eq];refine⟨?_,?_⟩
   ·have:IntKind.i64.min= -9223372036854775808:=rfl
    omega
   ·have:IntKind.i64.max=9223372036854775807:=rfl
    omega
  refine Calls.mono (CM b.1 (0+b.2) bm E.length (id:Int) (cV (bN 0 E)) w g1 g2 g3 hhas hwf (by rw[hsz];unfold maxLen;omega) (by rw[hsz];omega)) ?_;rintro e w' ⟨v,ss,rfl,hC,hrow,hn,hbw⟩
  have hperm:ss.Perm (cM E id):=by
   refine (List.perm_ext_iff_of_nodup hC.1 (wa hnd _)).2 fun x=>?_
   rw[hC.2 x];constructor
   ·rintro⟨h1,_,h3⟩
    obtain⟨r,hr,rfl⟩:=List.mem_map.1 ((jK (bN 0 E) x).1 h1);have:=(rM hnd hr .nil).symm.trans (h3 .nil);simp only[DataW.lit.injEq,Lit.int.injEq,true_and] at this;exact List.mem_map.2 ⟨r,List.mem_filter.2 ⟨hr,by simp[this]⟩,rfl⟩
   ·intro hx
    obtain⟨r,hr,rfl⟩:=List.mem_map.1 hx;obtain⟨hr1,hr2⟩:=List.mem_filter.1 hr;have hr2:=of_decide_eq_true hr2;exact⟨(jK (bN 0 E) _).2 (List.mem_map.2 ⟨r,hr1,rfl⟩),rfl,fun zd=>by rw[rM hnd hr1 zd,hr2]⟩
  have hs:=nX hperm (List.pairwise_map.2 ((List.pairwise_map.1 (cL E 0)).filter _|>.imp fun h=>by omega))
  have hlen:(cM E id).length=ss.length:=by rw[<-hs];simp
  refine⟨v,rfl,by rw[hlen,<-hs];exact hrow,?_,hbw⟩;rw[hn,<-hs];constructor
  ·rintro rfl;simp
  ·intro e;exact List.eq_nil_of_length_eq_zero (by rw[<-hlen,<-hs,e];rfl)
end Go.Proofs.YtegjgpldfgjoiaaGreatDoor
