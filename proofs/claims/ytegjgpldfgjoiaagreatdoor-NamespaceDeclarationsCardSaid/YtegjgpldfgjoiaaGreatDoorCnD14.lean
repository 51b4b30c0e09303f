import Derived.Test.YtegjgpldfgjoiaaGreatDoorCnD12
import Derived.Shelf.SlIterI.Sorted
import Derived.Shelf.SortM.Plain
import Derived.Shelf.SortM.SortNone
import Derived.Shelf.SlMaps.Clone
import Derived.Sort.MapsRangeIn
import Derived.Lib.SlKeysI
import Derived.Sort.KeysCollected
import Derived.Sort.OwnSorted
import Derived.Maps.AppendAt
import Derived.Maps.OwnIn
import Derived.OwnWalkIn
import Derived.TacticsInMore
import Derived.RegionIn
import Derived.LoopNIn
import Derived.LoopIn
import Derived.CallsIn
set_option linter.all false
namespace Go.Proofs.YtegjgpldfgjoiaaGreatDoor
namespace Ab
open Go Go.RowKit
section
variable {bl bl1:Bl}
theorem FC.below {P:Program} {f:FuncId} {args:List V} {v:V} (hok:l7 P f=true)
 (h:∀ (φ:Ph) (xs:List Value) (w:World),All2 (Vr φ) args xs->Good φ [] w->Calls P f xs.toArray w λe w'=>∃ x,e=.returned x/\(∀ ψ:Ph,ψ.z=φ.z->Vr ψ v x)/\Below w.heap.size w w'):FC P f args 0 [] v 0 []:=by
 refine⟨hok,λφ xs w hx hg hf=>?_⟩;refine (h φ xs w hx hg).mono ?_;rintro e w' ⟨x,rfl,hv,hb⟩;refine⟨φ,x,rfl,hv φ rfl,⟨λi bl hi=>(by cases hi),λi j bl bl' b b' hi=>(by cases hi),λb l hz=>?_,hg.gz⟩,hf,⟨hb.os,hb.tape,hb.output,hb.size,λb hlt _=>hb.block b hlt,λj bl b hj=>(by cases hj),λ_ _ q=>q,λ_ _ q=> .inl q⟩,Z02 _,λ_ _=>rfl⟩
 grind [hb.block,hg.fz]
theorem OpL.view {P:Program} {o:Oper} {env:List V} {n:Nat} {M M1 M1' M':Hp} {v:V} {n':Nat} (i:Nat) (hl:lk M i=some bl) (hro:bl1.ro=true) (hv:∀ φ w b,BlAt φ w b bl->BlAt φ w b bl1) (hin:i<n)
 (h1:∀ j,lk M1 j=if i=j then some bl1 else lk M j) (h:OpL P o env n M1 v n' M1') (h2:∀ j bl,lk M' j=some bl->if i=j then some bl=lk M i else lk M1' j=some bl) (hk:lk M1' i=some bl1):OpL P o env n M v n' M':=by
 intro φ a w Q hx hg hf
 have wr1:∀ b,Wr φ M1 b->Wr φ M b/\∀ c,φ i=some c->c.1=b->bl.ro=true:=by
  rintro b ⟨k,blk,c,hk1,hpk,hc,hr⟩;rw[h1] at hk1;split at hk1
  ·grind
  ·rename_i hne
   refine⟨⟨k,blk,c,hk1,hpk,hc,hr⟩,λc' hc' e=>?_⟩
   rcases hg.inj i k bl blk c' c hl hk1 hc' hpk (e.trans hc.symm) with q|q
   all_goals grind
 have hg1:Good φ M1 w:=by
  refine⟨λj bj hj=>?_,λj k bj bk b b' hj hk' hb hb' e=>?_,λb l hb=>⟨(hg.fz b l hb).1,λhw=>(hg.fz b l hb).2 (wr1 b hw).1⟩,hg.gz⟩
  ·rw[h1] at hj
   split at hj
   ·rename_i e;subst e;cases hj
    obtain⟨b,hb,hat⟩:=hg.hr i bl hl;exact⟨b,hb,hv φ w b hat⟩
   ·exact hg.hr j bj hj
  ·rw[h1] at hj hk'
   split at hj<;>split at hk'
   ·rename_i e1 e2;exact .inl (e1.symm.trans e2)
   ·rename_i e1 e2;subst e1;cases hj
    rcases hg.inj i k bl bk b b' hl hk' hb hb' e with q|q
    ·exact .inl q
    ·exact .inr ⟨hro,q.2⟩
   ·rename_i e1 e2;subst e2;cases hk'
    rcases hg.inj j i bj bl b b' hj hl hb hb' e with q|q
    ·exact .inl q
    ·exact .inr ⟨q.1,hro⟩
   ·exact hg.inj j k bj bk b b' hj hk' hb hb' e
 refine Z4v (λa' w'=>?_) (h φ a w Q hx hg1 hf);rintro⟨φ',x,e1,e2,hg',st,hφ⟩;have hφi:φ' i=φ i:=hφ i (λq=>Z40 _ (Z3w hin q.1));have hle:φ.le φ':=iv hf hφ st.zle;obtain⟨bi,hbi,hat⟩:=hg.hr i bl hl
 have nwr:bl.ro=false-> ¬Wr φ M1 bi.1:=λhr hw=>by grind
 have kept:bl.ro=false->w'.heap[bi.1]? =w.heap[bi.1]? :=λhr=>st.keep bi.1 hat.lt (nwr hr)
 have keptA:w'.heap[bi.1]? =w.heap[bi.1]? :=by
  cases hr:bl.ro with
  |false=>grind
  |true=>
   refine st.keep bi.1 hat.lt λhw=>?_
   have hw':=hw;obtain⟨k,blk,c,hk1,hpk,hc,hr'⟩:=hw';have:=h1 k;rw[hk1] at this;split at this
   ·grind
   ·rename_i hne
    rcases hg.inj i k bl blk bi c hl this.symm hbi hpk hc.symm with q|q
    all_goals grind
 have wr':∀ b,Wr φ' M' b->Wr φ' M1' b\/(b=bi.1/\bl.ro=false):=by
  rintro b ⟨k,blk,c,hk1,hpk,hc,hr⟩;have:=h2 k blk hk1;split at this
  ·grind
  ·exact .inl ⟨k,blk,c,this,hpk,hc,hr⟩
 have same:∀ k blk c,i≠k->lk M1' k=some blk->φ' k=some c->c.1=bi.1->bl.ro=true/\blk.ro=true:=by
  intro k blk c hne hk1 hpk hc;obtain⟨k2,b2,c2,q1,q2,q3,q4,q5⟩:=st.fresh k blk c hk1 hpk (by rw[hc];exact hat.lt);have q1':=h1 k2;rw[q1] at q1';split at q1'
  ·grind
  ·rename_i hne2
   rcases hg.inj i k2 bl b2 bi c2 hl q1'.symm hbi q2 (hc.symm.trans q3.symm) with q|q
   all_goals grind
 refine⟨φ',x,e1,e2,⟨λj bj hj=>?_,λj k bj bk b b' hj hk' hb hb' e=>?_,λb l hb=>⟨(hg'.fz b l hb).1,λhw=>?_⟩,hg'.gz⟩,⟨st.os,st.tape,st.output,st.size,λb hb hn=>st.keep b hb λhw=>hn (wr1 b hw).1,λj bj b hj hb hlt=>?_,st.zle,λb l hb=>?_⟩,hφ⟩
 ·have:=h2 j bj hj
  split at this
  ·rename_i e;subst e;rw[hl] at this;cases this
   exact⟨bi,ae,hat.mono hle keptA⟩
  ·exact hg'.hr j bj this
 ·have a1:=h2 j bj hj
  have a2:=h2 k bk hk'
  split at a1<;>split at a2
  ·rename_i e1 e2;exact .inl (e1.symm.trans e2)
  ·rename_i e1 e2;subst e1;rw[hl] at a1;cases a1
   rw[hφi,hbi] at hb;cases hb;exact .inr (same k bk b' e2 a2 hb' e.symm)
  ·rename_i e1 e2;subst e2;rw[hl] at a2;cases a2
   rw[hφi,hbi] at hb';cases hb';exact .inr ((same j bj b e1 a1 hb e).symm)
  ·exact hg'.inj j k bj bk b b' a1 a2 hb hb' e
 ·rcases wr' b hw with q|⟨q,hr⟩
  ·exact (hg'.fz b l hb).2 q
  ·subst q
   rcases st.zfr _ _ hb with q|q|q
   ·exact (hg.fz _ _ q).2 ⟨i,bl,bi,hl,hbi,rfl,hr⟩
   ·exact absurd hat.lt (Nat.not_lt.2 q)
   ·exact nwr hr q
 ·have:=h2 j bj hj
  split at this
  ·rename_i e;subst e;rw[hl] at this;cases this
   rw[hφi,hbi] at hb;cases hb;exact⟨i,bl,bi,hl,hbi,rfl,id,.inl rfl⟩
  ·rename_i hne
   obtain⟨k2,b2,c2,q1,q2,q3,q4,q5⟩:=st.fresh j bj b this hb hlt;have q1':=h1 k2;rw[q1] at q1';split at q1'
   ·rename_i e;subst e;cases q1'
    rcases q5 with q5|q5
    ·exact absurd q5 hne
    ·rw[hro] at q5;cases q5
   ·exact⟨k2,b2,c2,q1'.symm,q2,q3,q4,q5⟩
 ·rcases st.zfr b l hb with q|q|q
  all_goals grind
def nM (i:Nat):Hp->Hp
 |[]=>[]
 |(k,b)::t=>match Nat.beq k i with|true=>nM i t|false=>(k,b)::nM i t
theorem ng (i:Nat):∀ (cw:Hp) (M M1:Hp),(∀ j,i≠j->lk M1 j=lk M j)->(lk (az M (nM i cw)) i=lk M i)/\∀ j,i≠j->lk (az M (nM i cw)) j=lk (az M1 cw) j
 |[],M,M1,h=>⟨rfl,λj hj=>(h j hj).symm⟩
 |(k,b)::t,M,M1,h=>by
  simp only[nM];split
  ·rename_i e
   have e:=Z0q e;subst e;have:=ng k t M (put M1 k b) (λj hj=>by rw[aE,if_neg hj];exact h j hj);exact this
  ·rename_i e
   have hne: ¬k=i:=λq=>by subst q;simp at e
   have:=ng i t (put M k b) (put M1 k b) (λj hj=>by rw[aE,aE];split;·rfl
                                                    ·exact h j hj)
   refine⟨this.1.trans (by rw[aE,if_neg hne]),this.2⟩
section
variable {P:Program} {b:Nat} {ops:Array Oper} {d:Bool} {acc:List Row} {os:List Oper} {o:Oper} {env:List V} {n:Nat} {L:Hp} {R:Post} {f:FuncId} {xs:Array Operand}
theorem Ic (tbl:List Nat) (i:Nat) {args0:List V} {L0:Hp} {v0:V} {n0':Nat} {L0':Hp} (sc:FC P f args0 tbl.length L0 v0 n0' L0')
 (hchk:(args0.all (eH tbl.length)&&e_ tbl.length L0&&dC L0 L0'&&bZ (bE L0')&&Nat.ble tbl.length n0'&&oH tbl n n0'&&oV tbl L0)=true) {args1:List V} (ha:xs.toList.map (ev env)=args1) (hle:All2 VLe args1 (args0.map (bO (rn tbl n))))
 (hl:lk (res tbl L) i=some bl) (hro:bl1.ro=true) (hvw:∀ φ w b,BlAt φ w b bl->BlAt φ w b bl1) (hin:Nat.blt i n=true) (ft:FitP tbl n (put (res tbl L) i (some bl1)) L0) (hk:lk (az (put (res tbl L) i (some bl1)) (bP tbl n L0 L0')) i=some bl1)
 (hw:bg ops env o=some true) {v:V} (hv:gX (bO (rn tbl n) v0) some=some v) {wr:Hp} (hwr:kr (nM i (bP tbl n L0 L0')) [] some=some wr)
 (k:RegX P ops d (aB d o tbl wr acc) os (a_ env o.dst v) (n+(n0'-tbl.length)) (az L wr) R):CallG P ops d acc o f xs os env n L R:=by
 refine⟨λ⟨ts,ho⟩=>?_⟩;obtain⟨hf,sc⟩:=sc;rw[ed] at hv;cases hv;rw[cq] at hwr;cases hwr;simp only[Z07] at hchk;obtain⟨⟨⟨⟨⟨⟨k1,k2⟩,k3⟩,k4⟩,k5⟩,k6⟩,k7⟩:=hchk;unfold l7 at hf;split at hf
 ·rename_i fn hfn
  simp only[Z07,Z0v] at hf;have h:=SC.opW (n:=n) (env:=env) (M:=put (res tbl L) i (some bl1)) sc k1 k2 ho rfl hfn hf.1 hf.2 (ha▸hle) (Fits.of k6 k7 ft) (eN k3 k4);have hd:=ng i (bP tbl n L0 L0') (res tbl L) (put (res tbl L) i (some bl1)) (λj hj=>by rw[aE,if_neg hj]);refine RegX.op hw (OpL.view i hl hro hvw (aS.1 hin) (λj=>by rw[aE]) h (λj bj hj=>?_) hk) (Z1o _ _) k
  grind
 ·cases hf
theorem g7 (tbl:List Nat) (i:Nat) {bl bl1:Bl} {args0:List V} {L0:Hp} {v0:V} {n0':Nat} {L0':Hp} (sc:FC P f args0 tbl.length L0 v0 n0' L0') {args1:List V} {v:V} {wr:Hp} (k:RegX P ops d (aB d o tbl wr acc) os (a_ env o.dst v) (n+(n0'-tbl.length)) (az L wr) R)
 (hchk:(args0.all (eH tbl.length)&&e_ tbl.length L0&&dC L0 L0'&&bZ (bE L0')&&Nat.ble tbl.length n0'&&oH tbl n n0'&&oV tbl L0)=true:=by exact rfl) (ha:xs.toList.map (ev env)=args1:=by exact rfl) (hle:All2 VLe args1 (args0.map (bO (rn tbl n))):=by (repeat first|exact trivial|refine⟨ah _,?_⟩);first|done|fail)
 (hl:lk (res tbl L) i=some bl:=by exact rfl) (hvw:∀ φ w b,BlAt φ w b bl->BlAt φ w b bl1:=by exact λφ w b=>Zbv 1 rfl) (hro:bl1.ro=true:=by exact rfl) (hin:Nat.blt i n=true:=by exact rfl) (ft:FitP tbl n (put (res tbl L) i (some bl1)) L0:=by (repeat first|exact trivial|refine⟨⟨rfl,_,rfl,rfl,λh=>h⟩,?_⟩|refine⟨⟨rfl,_,rfl,rfl,λ_=>rfl⟩,?_⟩|refine Cm rfl rfl ?_);first|done|fail) (hk:lk (az (put (res tbl L) i (some bl1)) (bP tbl n L0 L0')) i=some bl1:=by exact rfl)
 (hw:bg ops env o=some true:=by exact rfl) (hv:gX (bO (rn tbl n) v0) some=some v:=by exact rfl) (hwr:kr (nM i (bP tbl n L0 L0')) [] some=some wr:=by exact rfl):CallG P ops d acc o f xs os env n L R:=Ic tbl i sc hchk ha hle hl hro hvw hin ft hk hw hv hwr k
end
def Ev (k:Nat) (bl:Bl):Bl:={cells:=bl.cells.take k,ty:=bl.ty,more:=true,ro:=true}
theorem Zbv {φ:Ph} {w:World} {b:Nat×Nat} (k:Nat) (hk:bl.kind=none) (h:BlAt φ w b bl):BlAt φ w b (Ev k bl):=by
 obtain⟨pre,xs,rest,fr,h1,h2,h3,h4,h5,h6⟩:=h;refine⟨pre,xs.take k,xs.drop k++rest,fr,?_,h2,?_,(λe=>by cases e),(λe=>by cases e),⟨λg z e=>(by cases e),λg e=>(by cases e)⟩⟩
 ·rw[h1,hk];show _=some (cU none _ bl.ty fr)
  rw[<-Z14 (xs.take k),Z2m]
 ·exact (h3.mono λ_ _=>Sr.mono (bl.ph_le_self φ)).take k
theorem SLe.slcfrz {i o:Nat} {c:Option Nat} {get:Nat->List S} {sz:Nat}:SLe (.slc (some (i,o)) 0 c) (.frz get sz 0):=λφ x h=>by
 obtain⟨b,k,_,e,_⟩:=h;subst e;exact Pr.nil _ _ (some _) k (λh=>nomatch h)
end
end Ab
namespace Ab
open Go
end Ab
section
open Go.Shelf
def Tryz.keysA_ren:Go.Shelf.Ren:=⟨fun|7=>72|10=>131|n=>n,fun|23=>76|26=>3|3=>86|28=>133|0=>0|27=>132|33=>141|4=>4|n=>n,fun|n=>n⟩
theorem Tryz.keysA:Go.Proofs.SlLaysZI.n7 Tryz.prog Tryz.keysA_ren:={
 mixed:=by kernel_rfl
 f7:=⟨Tryz.f72.name,by decide,Tryz.func72.trans (congrArg some (by kernel_rfl))⟩
 f10:=⟨Tryz.f131.name,by decide,Tryz.func131.trans (congrArg some (by kernel_rfl))⟩
 t0:=Tryz.underlying0
 a0:=Tryz.isAgg0
 z0:=Tryz.sizeOf0
 v0:=Tryz.zeroValue0
 t4:=Tryz.underlying4
 a4:=Tryz.isAgg4
 z4:=Tryz.sizeOf4
 v4:=Tryz.zeroValue4
 t23:=Tryz.underlying76
 a23:=Tryz.isAgg76
 z23:=Tryz.sizeOf76
 v23:=Tryz.zeroValue76
 t26:=Tryz.underlying3
 a26:=Tryz.isAgg3
 z26:=Tryz.sizeOf3
 v26:=Tryz.zeroValue3
 t27:=Tryz.underlying132
 a27:=Tryz.isAgg132
 z27:=Tryz.sizeOf132
 v27:=Tryz.zeroValue132
 t28:=Tryz.underlying133
 a28:=Tryz.isAgg133
 z28:=Tryz.sizeOf133
 v28:=Tryz.zeroValue133
 t33:=Tryz.underlying141
 a33:=Tryz.isAgg141
 z33:=Tryz.sizeOf141
 v33:=Tryz.zeroValue141}
def Tryz.sortedA_ren:Go.Shelf.Ren:=⟨fun|6=>71|8=>130|9=>74|11=>190|13=>133|12=>132|23=>200|24=>201|14=>191|15=>192|16=>193|17=>194|18=>195|19=>196|20=>197|21=>198|22=>199|25=>238|26=>239|27=>240|28=>241|29=>242|30=>181|31=>260|n=>n,fun|26=>3|28=>133|24=>22|0=>0|3=>3|37=>137|48=>255|50=>47|4=>4|40=>248|39=>247|45=>43|5=>5|9=>9|51=>282|55=>285|57=>297|58=>298|33=>141|n=>n,fun|n=>n⟩
theorem Tryz.sortedA:Go.Proofs.SlLaysZI.n6 Tryz.prog Tryz.sortedA_ren:={
 mixed:=by kernel_rfl
 f6:=⟨Tryz.f71.name,by decide,Tryz.func71.trans (congrArg some (by kernel_rfl))⟩
 f8:=⟨Tryz.f130.name,by decide,Tryz.func130.trans (congrArg some (by kernel_rfl))⟩
 f11:=⟨Tryz.f190.name,by decide,Tryz.func190.trans (congrArg some (by kernel_rfl))⟩
 t0:=Tryz.underlying0
 a0:=Tryz.isAgg0
 z0:=Tryz.sizeOf0
 v0:=Tryz.zeroValue0
 t24:=Tryz.underlying22
 a24:=Tryz.isAgg22
 z24:=Tryz.sizeOf22
 v24:=Tryz.zeroValue22
 t26:=Tryz.underlying3
 a26:=Tryz.isAgg3
 z26:=Tryz.sizeOf3
 v26:=Tryz.zeroValue3
 t28:=Tryz.underlying133
 a28:=Tryz.isAgg133
 z28:=Tryz.sizeOf133
 v28:=Tryz.zeroValue133
 i26:=by kernel_rfl}
def Tryz.sortA_ren:Go.Shelf.Ren:=⟨fun|5=>74|8=>133|7=>132|19=>200|20=>201|10=>191|11=>192|12=>193|13=>194|14=>195|15=>196|16=>197|17=>198|18=>199|30=>238|31=>239|32=>240|33=>241|34=>242|35=>181|40=>260|n=>n,fun|23=>22|25=>3|3=>3|32=>137|22=>22|0=>0|44=>255|46=>47|4=>4|36=>248|35=>247|41=>43|5=>5|9=>9|53=>282|57=>285|63=>297|64=>298|n=>n,fun|n=>n⟩
theorem Tryz.sortA:Go.Proofs.SlLaysM.n5 Tryz.prog Tryz.sortA_ren:={
 mixed:=by kernel_rfl
 f5:=⟨Tryz.f74.name,by decide,Tryz.func74.trans (congrArg some (by kernel_rfl))⟩
 f7:=⟨Tryz.f132.name,by decide,Tryz.func132.trans (congrArg some (by kernel_rfl))⟩
 f8:=Tryz.func133.trans (congrArg some (by kernel_rfl))
 f10:=⟨Tryz.f191.name,by decide,Tryz.func191.trans (congrArg some (by kernel_rfl))⟩
 f11:=⟨Tryz.f192.name,by decide,Tryz.func192.trans (congrArg some (by kernel_rfl))⟩
 f12:=⟨Tryz.f193.name,by decide,Tryz.func193.trans (congrArg some (by kernel_rfl))⟩
 f13:=⟨Tryz.f194.name,by decide,Tryz.func194.trans (congrArg some (by kernel_rfl))⟩
 f14:=⟨Tryz.f195.name,by decide,Tryz.func195.trans (congrArg some (by kernel_rfl))⟩
 f15:=⟨Tryz.f196.name,by decide,Tryz.func196.trans (congrArg some (by kernel_rfl))⟩
 f16:=⟨Tryz.f197.name,by decide,Tryz.func197.trans (congrArg some (by kernel_rfl))⟩
 f17:=⟨Tryz.f198.name,by decide,Tryz.func198.trans (congrArg some (by kernel_rfl))⟩
 f18:=⟨Tryz.f199.name,by decide,Tryz.func199.trans (congrArg some (by kernel_rfl))⟩
 f19:=Tryz.func200.trans (congrArg some (by kernel_rfl))
 f20:=Tryz.func201.trans (congrArg some (by kernel_rfl))
 f30:=⟨Tryz.f238.name,by decide,Tryz.func238.trans (congrArg some (by kernel_rfl))⟩
 f31:=Tryz.func239.trans (congrArg some (by kernel_rfl))
 f32:=Tryz.func240.trans (congrArg some (by kernel_rfl))
 f33:=⟨Tryz.f241.name,by decide,Tryz.func241.trans (congrArg some (by kernel_rfl))⟩
 f34:=⟨Tryz.f242.name,by decide,Tryz.func242.trans (congrArg some (by kernel_rfl))⟩
 f35:=⟨Tryz.f181.name,by decide,Tryz.func181.trans (congrArg some (by kernel_rfl))⟩
 f40:=⟨Tryz.f260.name,by decide,Tryz.func260.trans (congrArg some (by kernel_rfl))⟩
 t0:=Tryz.underlying0
 a0:=Tryz.isAgg0
 z0:=Tryz.sizeOf0
 v0:=Tryz.zeroValue0
 t3:=Tryz.underlying3
 a3:=Tryz.isAgg3
 z3:=Tryz.sizeOf3
 v3:=Tryz.zeroValue3
 t4:=Tryz.underlying4
 a4:=Tryz.isAgg4
 z4:=Tryz.sizeOf4
 v4:=Tryz.zeroValue4
 t5:=Tryz.underlying5
 a5:=Tryz.isAgg5
 z5:=Tryz.sizeOf5
 v5:=Tryz.zeroValue5
 t9:=Tryz.underlying9
 a9:=Tryz.isAgg9
 z9:=Tryz.sizeOf9
 v9:=Tryz.zeroValue9
 t22:=Tryz.underlying22
 a22:=Tryz.isAgg22
 z22:=Tryz.sizeOf22
 v22:=Tryz.zeroValue22
 t23:=Tryz.underlying22
 a23:=Tryz.isAgg22
 z23:=Tryz.sizeOf22
 v23:=Tryz.zeroValue22
 t25:=Tryz.underlying3
 a25:=Tryz.isAgg3
 z25:=Tryz.sizeOf3
 v25:=Tryz.zeroValue3
 t32:=Tryz.underlying137
 a32:=Tryz.isAgg137
 z32:=Tryz.sizeOf137
 v32:=Tryz.zeroValue137
 t35:=Tryz.underlying247
 a35:=Tryz.isAgg247
 z35:=Tryz.sizeOf247
 v35:=Tryz.zeroValue247
 t36:=Tryz.underlying248
 a36:=Tryz.isAgg248
 z36:=Tryz.sizeOf248
 v36:=Tryz.zeroValue248
 t41:=Tryz.underlying43
 a41:=Tryz.isAgg43
 z41:=Tryz.sizeOf43
 v41:=Tryz.zeroValue43
 t44:=Tryz.underlying255
 a44:=Tryz.isAgg255
 z44:=Tryz.sizeOf255
 v44:=Tryz.zeroValue255
 t46:=Tryz.underlying47
 a46:=Tryz.isAgg47
 z46:=Tryz.sizeOf47
 v46:=Tryz.zeroValue47
 t53:=Tryz.underlying282
 a53:=Tryz.isAgg282
 z53:=Tryz.sizeOf282
 v53:=Tryz.zeroValue282
 t57:=Tryz.underlying285
 a57:=Tryz.isAgg285
 z57:=Tryz.sizeOf285
 v57:=Tryz.zeroValue285
 t63:=Tryz.underlying297
 a63:=Tryz.isAgg297
 z63:=Tryz.sizeOf297
 v63:=Tryz.zeroValue297
 t64:=Tryz.underlying298
 a64:=Tryz.isAgg298
 z64:=Tryz.sizeOf298
 v64:=Tryz.zeroValue298}
def Tryz.cloneA_ren:Go.Shelf.Ren:=⟨fun|5=>123|7=>182|n=>n,fun|23=>76|25=>3|3=>86|4=>4|20=>20|n=>n,fun|n=>n⟩
theorem Tryz.cloneA:Go.Proofs.SlLaysW.n5 Tryz.prog Tryz.cloneA_ren:={
 mixed:=by kernel_rfl
 f5:=⟨Tryz.f123.name,by decide,Tryz.func123.trans (congrArg some (by kernel_rfl))⟩
 f7:=Tryz.func182.trans (congrArg some (by kernel_rfl))
 t4:=Tryz.underlying4
 a4:=Tryz.isAgg4
 z4:=Tryz.sizeOf4
 v4:=Tryz.zeroValue4
 t20:=Tryz.underlying20
 a20:=Tryz.isAgg20
 z20:=Tryz.sizeOf20
 v20:=Tryz.zeroValue20
 t23:=Tryz.underlying76
 a23:=Tryz.isAgg76
 z23:=Tryz.sizeOf76
 v23:=Tryz.zeroValue76}
def Tryz.cloneB_ren:Go.Shelf.Ren:=⟨fun|5=>124|7=>182|n=>n,fun|23=>77|25=>9|3=>3|4=>4|20=>20|n=>n,fun|n=>n⟩
theorem Tryz.cloneB:Go.Proofs.SlLaysW.n5 Tryz.prog Tryz.cloneB_ren:={
 mixed:=by kernel_rfl
 f5:=⟨Tryz.f124.name,by decide,Tryz.func124.trans (congrArg some (by kernel_rfl))⟩
 f7:=Tryz.func182.trans (congrArg some (by kernel_rfl))
 t4:=Tryz.underlying4
 a4:=Tryz.isAgg4
 z4:=Tryz.sizeOf4
 v4:=Tryz.zeroValue4
 t20:=Tryz.underlying20
 a20:=Tryz.isAgg20
 z20:=Tryz.sizeOf20
 v20:=Tryz.zeroValue20
 t23:=Tryz.underlying77
 a23:=Tryz.isAgg77
 z23:=Tryz.sizeOf77
 v23:=Tryz.zeroValue77}
def Tryz.cloneC_ren:Go.Shelf.Ren:=⟨fun|5=>125|7=>182|n=>n,fun|23=>78|25=>3|3=>126|4=>4|20=>20|n=>n,fun|n=>n⟩
theorem Tryz.cloneC:Go.Proofs.SlLaysW.n5 Tryz.prog Tryz.cloneC_ren:={
 mixed:=by kernel_rfl
 f5:=⟨Tryz.f125.name,by decide,Tryz.func125.trans (congrArg some (by kernel_rfl))⟩
 f7:=Tryz.func182.trans (congrArg some (by kernel_rfl))
 t4:=Tryz.underlying4
 a4:=Tryz.isAgg4
 z4:=Tryz.sizeOf4
 v4:=Tryz.zeroValue4
 t20:=Tryz.underlying20
 a20:=Tryz.isAgg20
 z20:=Tryz.sizeOf20
 v20:=Tryz.zeroValue20
 t23:=Tryz.underlying78
 a23:=Tryz.isAgg78
 z23:=Tryz.sizeOf78
 v23:=Tryz.zeroValue78}
end
section
open Go.RowKit Go.Maps Go.Sort
abbrev EntT:=ByteArray×Int×Int×Int×Int×Int×Int×Int×Int×Int×Int×Int×Int×Int
def Ba (l:List Value):Option EntT:=
 match l with
 |[.string s,.int .i64 z1,.int .i64 p,.int .i64 z3,.int .i64 z4,.int .i64 z5,.int .u64 z6,.int .u64 z7,.int .i64 z8,.int .i64 z9,.int .i64 z10,.int .i64 z11,.int .i64 z12,.int .i64 z13]=>some (s,z1,p,z3,z4,z5,z6,z7,z8,z9,z10,z11,z12,z13)
 |_=>none
def jk {H:Type} (v:Value):Option (DataW H×List MemPlace):=
 match v with
 | .agg a=>match Ba a.toList with|some c=>some (.lit (.int .i64 c.2.2.1),[])|none=>none
 |_=>none
end
section
open Go.RowKit Go.Maps Go.Sort Go.Shelf
theorem CO (m:Nat):AnyZI.SortsIn Tryz.prog Tryz.sortedA_ren Fence.wide m:=
 ⟨λblk off cap ss W hH hblk hsz=>callsIn_wide.2 (AnyM.slices_Sort_int Tryz.sortA blk off cap ss W hH hblk hsz),
  λp cap W=>callsIn_wide.2 (AnyM.slices_Sort_int_none Tryz.sortA p cap W)⟩
set_option maxRecDepth 100000 in
theorem ux {H:Type} (bs os b nn:Nat) (D0:DataW H) (R:Value->Option (DataW H×List MemPlace)) (w:World) (hcell:w.cell? ⟨bs,os,none⟩=some (.map (some b))) (hown:w.ownsMap Tryz.prog 3 R b nn D0) (hmax:Maps.size D0<=maxLen) (hbytes:Maps.size D0*8<=140737488355328):
 Calls Tryz.prog 26 #[.pointer (some ⟨bs,os,none⟩)] w λe w'=>∃ (v:Value) (ss:List Int),e=.returned v/\ss.Perm (intKeys D0)/\
  w'.ownsRow w.heap.size 3 1 v ss.length ((ss.mergeSort (λx y=>decide (x<=y))).map encZ)/\(v=.slice none 0 0↔ss=[])/\Below w.heap.size w w':=by
 refine (callsIn_wide (n:=6)).1 ?_;have hbl:=hown.lt
 have hseq:SeqGives Fence.wide 2 Tryz.prog 131 #[.pointer (some ⟨w.heap.size,0,none⟩)] encZ (λss=>ss.Perm (intKeys D0)) (Maps.size D0) (w.alloc (.cells #[.map (some b)] 76)):=
  AnyZI.keys_gives (ρ:=Tryz.keysA_ren) {Tryz.keysA with} Fence.wide _ trivial rfl (by omega) w.heap.size b nn D0 _ (by simp) (by simp) (by
   obtain⟨es,clock,hb,Ft,hs,hD⟩:=hown
   exact⟨es,clock,(Below.heap_alloc _ _ b hbl).trans hb,Ft,hs,hD⟩)
 have cK:∀ mb W,CallsIn Fence.wide 5 Tryz.prog 72 #[.map mb] W λe w'=>e=.returned (.func (.func 131) #[] #[.pointer (some ⟨W.heap.size,0,none⟩)])/\w'=W.alloc (.cells #[.map mb] 76):=λmb W=>AnyZI.keys_in Tryz.keysA Fence.wide 5 trivial rfl mb W
 have cS:=AnyZI.sorted_in Tryz.sortedA Fence.wide 5 trivial trivial trivial trivial rfl (by omega) (CO _) (enters_of Tryz.func74 (by kernel_rfl) rfl) 131 #[.pointer (some ⟨w.heap.size,0,none⟩)] trivial (enters_of Tryz.func131 (by kernel_rfl) rfl) _ _ hmax hbytes _ hseq;change CallsIn _ _ Tryz.prog 71 _ _ _ at cS;have hfK:Fence.wide.fn 72:=trivial;have hfS:Fence.wide.fn 71:=trivial;refine callsIn_of_wp Tryz.func26 rfl trivial ?_ rfl;simp only[Tryz.ntmps26,List.size_toArray,List.length_cons,List.length_nil,Nat.reduceAdd,Nat.reduceSub,Array.replicate_succ,Array.replicate_zero,List.push_toArray,List.append_toArray,List.nil_append,List.cons_append]
 gi_wp2_with (first
  |(gi_at_call 72;refine (cK _ _).mono ?_;rintro e w' ⟨rfl,rfl⟩)
  |(gi_at_call 71;refine cS.mono ?_;rintro e w' ⟨v,ss,rfl,hS,hrow,hnil,hb⟩)
  |gi_in)
 go_ret
 exact⟨v,ss,rfl,hS,ownsRow_base_a hrow (by simp),hnil,((Below.refl _ w).alloc (Nat.le_refl _) _).trans (hb.mono (by simp))⟩
