import Derived.Test.YtegjgpldfgjoiaaGreatDoorCnJ40
set_option linter.all false
set_option maxHeartbeats 40000000
set_option maxRecDepth 100000
namespace Go.Proofs.YtegjgpldfgjoiaaGreatDoor
open Go Ab
section
variable {G:Dgs}
def C6 (E:Dgs):Prop:=∀ d∈E,d.2=6
theorem Dm {p:List Nd} {t:Fo} (hp:p.length<=2048) (ha:t.At p 0) (hv:t.V (List.replicate t.cnt (false,68))) (hs:t.size=p.length):(fO (lD p (anS p t).F (anS p t).S t p.length 0 (anS p t).G)).length<=1000000000:=by
 rw[gb]
 have key:∀ (l:List Nat),l.length<=2048->(∀ i∈l,i<p.length)->(l.flatMap (pR p (anS p t).F (anS p t).S t)).length<=l.length*6145:=by
  intro l
  induction l with
  |nil=>grind
  |cons i l ih=>
   intro h1 h2;rw[Z0g,Z03,Z04];have:=ih ae (λj hj=>h2 j (Z0y _ hj));have hi:=h2 i (Z17 ..);obtain⟨sl,g1,g2⟩:=cM ha hv (Z08 i) (aa:i<0+t.size)
   grind [pR,mO]
 rw[lC,Z03];have h1:=(dt false t 0 ⟨true,0,[]⟩ (xE p)).2.2;rw[show (xE p).G.length=0 from rfl] at h1;have h2:=key (List.range' 0 p.length) ae (λi hi=>by grind);simp only[Z5e] at h2;have h3:p.length*6145<=2048*6145:=Z1w _ hp;have h4:(anS p t).G.length<=0+t.size:=h1;omega
theorem FM (h:C6 (fO G)):C6 G:=λd hd=>h d (by unfold fO;exact (Z57 ..).mem_iff.2 hd)
theorem Mz {k:Nat} (hk:k<G.length):G.getD k (0,0)∈G:=ae
theorem FN {p:List Nd} {F:List (By×Nat)} {T:List Pth} {t:Fo} (h:C6 (lD p F T t p.length 0 G)) (j:Nat) (hj:j<p.length):aN p j=false:=by
 rw[lC] at h
 have this:C6 (if aN p j then [(j,4)] else []):=λd hd=>h d (Z47 _ (Z2h.2 ⟨j,ae,Z3c _ hd⟩))
 cases e:aN p j with
 |false=>rfl
 |true=>
  rw[e,if_pos rfl] at this;have:=this (j,4) (Z0m.2 rfl);cases this
end
theorem HS (w:World) (o:Obj):(w.alloc o).heap[w.heap.size]? =some o:=by
 show (w.heap.push o)[w.heap.size]? =some o;simp
theorem Ed {κ α:Type} (K:KD κ) (agg:Bool) (sz:Nat) (c:α->List S) (hw:∀ a,(c a).length=sz) (E:En κ α) (ck:Nat) (f:FuncId) (hcl:∀ (b:Nat) (es:Array MapEntry) (clock:Nat) (w:World),w.heap[b]? =some (.map es clock)->Calls Tryz.prog f #[.map (some b)] w λe w'=>e=.returned (.map (some w.heap.size))/\w'=w.alloc (.map es clock)):
 SC Tryz.prog f [.s (.map (some 0))] 1 [(0,some (mB K agg sz c E ck))] (.s (.map (some 1))) 2 [(0,some (mB K agg sz c E ck)),(1,some (mB K agg sz c E ck))]:=by
 refine SC.fresh (L:=[(0,some (mB K agg sz c E ck))]) (mB K agg sz c E ck) (λj hj=>?_) (Z02 _) λφ xs w ha hg=>?_
 ·rw[aY,if_neg aa];rfl
 ·match xs,ha with
  |[x],⟨hx,_⟩=>
   obtain⟨b,hb,hb2,rfl⟩:=hx;obtain⟨b',hb',hat⟩:=hg.hr 0 _ rfl;rw[hb] at hb';cases hb';obtain⟨M,hm,hM⟩:=rM (r:=false) hw hat hb2;refine Z4d (hcl b.1 _ _ w hm) ?_;rintro e w' ⟨rfl,rfl⟩;refine⟨w.heap.size,λi=>if i=1 then some (w.heap.size,0) else none,_,rfl,(RowKit.Below.refl _ w).alloc (Z02 _) _,Z02 _,rfl,λi hi=>if_neg aa,λφ' hle hc=>⟨⟨(w.heap.size,0),hc 1 (Z02 _),rfl,rfl⟩,?_⟩⟩;exact Ba hw (HS w _) (EntsR.mono (φ:=fl φ) (φ':=fl φ') ⟨λ_ _ h=>(by cases h),λ_ _ h=>hle.z _ _ h⟩ hM) rfl
theorem Mw (E:List Ent):FQ 123 [.s (.map (some 0))] 1 [(0,some (oB E))] (.s (.map (some 1))) 2 [(0,some (oB E)),(1,some (oB E))]:=
 ⟨aK,Ed rf true 14 gX fA _ _ _ λb es clock w hb=>AnyW.maps_Clone Tryz.cloneA b es clock w hb⟩
theorem Mv (E:List Ent):FQ 124 [.s (.map (some 0))] 1 [(0,some (pB E))] (.s (.map (some 1))) 2 [(0,some (pB E)),(1,some (pB E))]:=
 ⟨aK,Ed Lk false 1 iC (λ_=>rfl) _ _ _ λb es clock w hb=>AnyW.maps_Clone Tryz.cloneB b es clock w hb⟩
theorem Mu (T:List Tb):FQ 125 [.s (.map (some 0))] 1 [(0,some (tB T))] (.s (.map (some 1))) 2 [(0,some (tB T)),(1,some (tB T))]:=
 ⟨aK,Ed rf true 2 mC ia _ _ _ λb es clock w hb=>AnyW.maps_Clone Tryz.cloneC b es clock w hb⟩
abbrev ge (o p t:Nat) (nx nt:Int):Bl:={cells:=[.map (some o),.map (some p),.map (some t),.int .i64 nx,.int .i64 nt],ty:=80}
theorem Cm (E:List Ent) (T:List Tb) (nx nt:Int):FQ 66 [.s (.ptr (some (0,0)))] 4 [(0,some {ge 1 2 3 nx nt with ro:=true}),(1,some (oB E)),(2,some (pB E)),(3,some (tB T))] (.agg [.map (some 4),.map (some 5),.map (some 6),.int .i64 nx,.int .i64 nt]) 7 [(0,some {ge 1 2 3 nx nt with ro:=true}),(1,some (oB E)),(2,some (pB E)),(3,some (tB T)),(4,some (oB E)),(5,some (pB E)),(6,some (tB T))]:=by
 have h1:=Mw E;have h2:=Mv E;have h3:=Mu T;refine wW Tryz.func66 ?_
 repeat'(first|refine yA ?_|refine y2 ?_ ?_|refine wX (bD [1] h1 ?_)|refine wX (bD [2] h2 ?_)|refine wX (bD [3] h3 ?_)|exact y5|fail)
 exact⟨.inl rfl,_,[5,6,7],ah _,fY rfl ⟨rfl,rfl,rfl,rfl,rfl,rfl,rfl,trivial⟩ rfl rfl rfl rfl⟩
abbrev oE (E:List Ent) (T:List Tb):Hp:=[(0,some (ge 1 2 3 (E.length:Nat) (1+(T.length:Int)))),(1,some (oB E)),(2,some (pB E)),(3,some (tB T))]
abbrev Lz (E:List Ent) (T:List Tb):Hp:=[(0,some (ge 4 5 6 (E.length:Nat) (1+(T.length:Int)))),(1,none),(2,none),(3,none),(4,some (oB E)),(5,some (pB E)),(6,some (tB T))]
theorem Ek (p:List Nd) (G:Dgs) (hG:G.length<=1000000000) (hck:FQ 65 [al p] 0 [] (oC G) 0 []) (h6: ¬C6 G) (E:List Ent) (T:List Tb):
 FQ 25 [.s (.ptr (some (0,0))),al p] 4 (oE E T) (.tup [.s (.int .i64 0),.s (.int .i64 1)]) 7 (Lz E T):=by
 refine wW Tryz.func25 ?_
 repeat'(first|refine yA ?_|refine y2 ?_ ?_|refine an hck ?_|exact y5|fail)
 refine cy (σ:=Nat) (λi=>[(16,nI (i:Nat))]) (λ_=>oE E T) (λi=>i<=G.length/\∀ k,k<i->(G.getD k (0,0)).2=6) (λi=>G.length-i) 0 rfl (λ_=>rfl) ⟨Z08 _,λk hk=>absurd hk (Z1m _)⟩ aP ⟨rfl,rfl,rfl,rfl,trivial⟩ ?_;rintro i ⟨hi,hb⟩;by_cases hlt:i<G.length
 ·by_cases hc:(G.getD i (0,0)).2=6
  ·
   have hb':∀ k,k<i+1->(G.getD k (0,0)).2=6:=by
    intro k hk
    rcases Z0a k i with h|h
    ·exact hb k h
    ·rw[show k=i by omega];exact hc
   repeat'(first|refine yA ?_|refine y2 ?_ ?_|refine y4 λh=>?_|exact y5|fail)
   refine dz (i+1) ⟨hlt,hb'⟩ aa rfl ⟨bB (congrArg nI (by push_cast;omega)),trivial⟩ ⟨rfl,rfl,rfl,rfl,trivial⟩ rfl rfl ac
  ·
   repeat'(first|refine yA ?_|refine y2 ?_ ?_|refine y4 λh=>?_|exact y5|fail)
   exact⟨.inl rfl,_,[1,2,3],ah _,uI rfl ⟨rfl,rfl,rfl,rfl,trivial⟩ rfl rfl rfl rfl rfl⟩
 ·exfalso
  refine h6 λd hd=>?_
  obtain⟨k,hk,rfl⟩:=Z2r.1 hd;have:=hb k aa
  rwa [Z00,Z01 hk] at this
section
variable {ops:Array Oper} {d:Bool} {bl:Bl} {L':Hp}
theorem BD (nt num:Int) (p:List Nd) (Eo:List Nat) (H:PrO p) (s:S) (hs:Az s=false) (T:List Tb) (E:List Ent) (rs:List Int) (hrs:rs.length<=50000) (m:Nat) (d:Fd) (hd:FdOK p m E.length d) (hrg:RegE T E) (hbt:BitO E) (R:List Ent×List Int×Int) (hR:gk p T d d.node.toNat E rs=R):
 FQ 70 [.s (.ptr (some (0,0))),.agg (mr d)] 6 (hL nt num p Eo s T E rs) (.s (.int .i64 R.2.2)) 8 (Mg nt num p Eo s T R.1 R.2.1):=by
 obtain⟨i,e1,e2,e3⟩:=hd.node;have hR:gk p T d i E rs=R:=ae
 have h:=λx=>BE nt num p Eo H.hw H.hI x T E rs hrs d i e2 H.hp e1 hd.scope (λu hu=>by have:=hd.units u hu;omega) hd.len hd.b0 hd.b1 e3 hrg hbt R hR
 exact⟨(h (.int .i64 0)).1,SC.cst (i:=0) (o:=8) (i':=0) (o':=8) (s:=s) rfl rfl rfl rfl hs rfl rfl λy hy=>(h y).2⟩
theorem DN {nt num:Int} {p:List Nd} {Eo:List Nat} {T:List Tb} {E:List Ent} {rs:List Int}:fg 6 (hL nt num p Eo .unk T E rs)=true:=by
 unfold hL h_;generalize List.map _ rs=cg
 cases cg<;>rfl
abbrev Lj (a b c:Nat) (nx nt num:Int) (p:List Nd) (Eo:List Nat) (fs rs:S):Bl:={cells:=[.map (some a),.map (some b),.map (some c),.int .i64 nx,.int .i64 nt,.int .i64 num,.frz (λk=>ndC (p.getD k dN)) 4 p.length,.frz (λk=>[.int .i64 ((Eo.getD k 0:Nat):Int)]) 1 Eo.length,fs,rs],ty:=123}
def Gy:Fd:=⟨0,[],[],0⟩
section
variable {P:Program} {b:Nat} {env:List V} {n:Nat} {L:Hp} {R:Post}
theorem Ex.ld13 {ops:Array Oper} {d:Bool} (j i:Nat) (hn:n<=i) (hl:lk L j=some bl) (ho:bl.cells[8]? =some (.slc none 0 (some 0))) {L':Hp} (hL:put L j (some {bl with cells:=bl.cells.set 8 (.row i (i+1) 0)})=L') (k:Ex P b (.region 13 ops d) env (i+2) L' R):Ex P b (.region 13 ops d) env n L R:=
 Ex.cel j 8 hl ho SLe.nilrow hL (Ex.upN aa k)
theorem Ex.cel23 {ops:Array Oper} {d:Bool} (j o:Nat) {s s':S} (hl:lk L j=some bl) (ho:bl.cells[o]? =some s) (hle:SLe s s') {L':Hp} (hL:put L j (some {bl with cells:=bl.cells.set o s'})=L') (k:Ex P b (.region 23 ops d) env n L' R):Ex P b (.region 23 ops d) env n L R:=Ex.cel j o hl ho hle hL k
theorem Ex.fzC23 {ops:Array Oper} {d:Bool} (j o:Nat) (get:Nat->List S) (sz:Nat) {s:S} {i N:Nat} {blj:Bl} (hlj:lk L j=some blj) (hij:i≠j) (hs:blj.cells[o]? =some s) (ht:dQ (.s s)=some (i,N)) (hl:lk L i=some bl) (hro:bl.ro=false) (hk:bl.kind=none)
 (hg:∀ k,k<N->(get k).length=sz) (hc:∀ k j x,k<N->(get k)[j]? =some x->bl.cells[k*sz+j]? =some x/\bL x=true)
 {L':Hp} (hL:put (put L i none) j (some {blj with cells:=blj.cells.set o (.frz get sz N)})=L') (k:Ex P b (.region 23 ops d) env n L' R):Ex P b (.region 23 ops d) env n L R:=Ex.fzC j o get sz hlj hij hs ht hl hro hk hg hc hL k
theorem H0 (fs:List Fd) {k j:Nat} {x:S} (hk:k<fs.length) (hx:(mr (fs.getD k Gy))[j]? =some x):(fs.flatMap mr)[k*4+j]? =some x/\bL x=true:=by
 refine⟨cq mr 4 Gy (λ_=>rfl) hk hx,?_⟩
 rcases j with _|_|_|_|j
 ·cases hx;rfl
 ·cases hx;rfl
 ·cases hx;rfl
 ·cases hx;rfl
 ·simp[mr] at hx
theorem Ex.frow {c:Code} (t i:Nat) (fs:List Fd) (ht:env.getD t .undef=.s (.row i (i+1) fs.length)) (hl:lk L i=nY i fs) {env':List V} (he:env.set t (.s (.frz (λk=>mr (fs.getD k Gy)) 4 fs.length))=env') (hL:put L i none=L') (k:Ex P b c env' n L' R):Ex P b c env n L R:=by
 cases fs with
 |nil=>
  subst hL;refine gH t _ (by rw[ht];exact VLe.s SLe.row0) he (Ex.subF (λj bl hj=>?_) k)
  grind [aC]
 |cons x fs=>
  have hlen:t<env.length:=by
   grind
  refine gH t (.s (.sla i (i+1) (x::fs).length)) (by rw[ht];exact VLe.s (SLe.rowsla (Z1n _))) rfl ?_;refine Ex.fz t (λk=>mr ((x::fs).getD k Gy)) 4 (bl:={cells:=(x::fs).flatMap mr,ty:=129,more:=true,sym:=true,flat:=true,gh:=some (i+1,4)}) (i:=i) (N:=(x::fs).length) ?_ hl rfl rfl (λ_ _=>rfl) (λk j y hk hx=>H0 (x::fs) hk hx) ?_ hL k
  ·rw[Z00,Z1i,if_pos rfl,if_pos hlen];rfl
  ·rw[<-he,Z5m]
end
theorem Ej (p:List Nd) (H:PrO p) (G:Dgs) (hG:G.length<=1000000000) (hck:FQ 65 [al p] 0 [] (oC G) 0 []) (h6:C6 G) (t:Fo) (ha:t.At p 0) (hv:t.V (List.replicate t.cnt (false,68))) (hs:t.size=p.length) (hE:EOK p (cz t)) (hen:FQ 68 [al p] 0 [] (.s (.frz (λk=>[.int .i64 (((cz t).getD k 0:Nat):Int)]) 1 (cz t).length)) 0 [])
 (E:List Ent) (T:List Tb) (hT:T.length<=10) (hreg:RegE T E) (hbit:BitO E) (D:DR) (hD:aX p (1+(T.length:Int)) false t 0 ⟨true,0,[]⟩ E []=D) (R:List Ent×List Int×Int) (hR:gf p (T++[⟨p,[]⟩]) D.2.1 D.1 []=R)
 (v:V) (n':Nat) (L':Hp) (hA:D.2.2≠0->v=.tup [.s (.int .i64 0),.s (.int .i64 D.2.2)]/\n'=7/\L'=Lz E T) (hB:D.2.2=0->R.2.2≠0->v=.tup [.s (.int .i64 0),.s (.int .i64 R.2.2)]/\n'=7/\L'=Lz E T)
 (hC:D.2.2=0->R.2.2=0->v=.tup [.s (.int .i64 (1+(T.length:Int))),.s (.int .i64 0)]/\n'=7/\L'=[(0,some (ge 4 5 6 (R.1.length:Nat) (1+(T.length:Int)+1))),(1,none),(2,none),(3,none),(4,some (oB R.1)),(5,some (pB R.1)),(6,some (tB (T++[⟨p,R.2.1⟩])))]):
 FQ 25 [.s (.ptr (some (0,0))),al p] 4 (oE E T) v n' L':=by
 have hp:=H.hp;have hcl:=Cm E T (E.length:Nat) (1+(T.length:Int));have hcn:=FD p aa;have hdg:=ng (num:=1+(T.length:Int)) (m:=E.length) H t.size t 0 ⟨true,0,[]⟩ E [] (Z02 _) ha hv ⟨Z02 _,hbit,λd hd=>by cases hd⟩;have hdl:=iw (p:=p) (num:=1+(T.length:Int)) false t 0 ⟨true,0,[]⟩ E [];have hdc:=Fk (1+(T.length:Int)+1) (1+(T.length:Int)) p (cz t) hp hE t.size (w4 (1+(T.length:Int)+1) (1+(T.length:Int)) p (cz t) hp H.hw H.hI H.hO H.hN hE t.size) t 0 ⟨true,0,[]⟩ E [] (Z02 _) ha hv rfl ae;rw[hD] at hdg hdl hdc;obtain⟨E1,fs,e⟩:=D;simp only at hdg hdl hdc hR hA hB hC;have hel:=hE.len
 have hTn:∃ j:Nat,1+(T.length:Int)=1+(j:Int)/\j<(T++[(⟨p,[]⟩:Tb)]).length/\((T++[(⟨p,[]⟩:Tb)]).getD j tZ).p=p:=⟨T.length,rfl,aq,aq⟩
 have hr1:RegE (T++[⟨p,[]⟩]) E1:=RegE.gro H hTn hdg.1 (RegE.tab _ aq (λj hj=>by grind) hreg);refine wW Tryz.func25 ?_
 repeat'(first|refine yA ?_|refine y2 ?_ ?_|refine an hck ?_|exact y5|fail)
 refine cy (σ:=Nat) (λi=>[(16,nI (i:Nat))]) (λ_=>oE E T) (λi=>i<=G.length) (λi=>G.length-i) 0 rfl (λ_=>rfl) (Z08 _) aP ⟨rfl,rfl,rfl,rfl,trivial⟩ ?_;intro j hj;by_cases hlt:j<G.length
 ·have hc:(G.getD j (0,0)).2=6:=h6 _ (Mz hlt)
  repeat'(first|refine yA ?_|refine y2 ?_ ?_|refine y4 λh=>?_|exact y5|fail)
  refine dz (j+1) hlt aa rfl ⟨bB (congrArg nI ae),trivial⟩ ⟨rfl,rfl,rfl,rfl,trivial⟩ rfl rfl ac
 by_cases he:e=0
 ·subst he
  repeat'(first|refine Ex.ld13 7 8 ac rfl rfl rfl ?_|refine y1 ?_|refine y2 ?_ ?_|refine y4 λh=>?_|(refine wX ?_;refine MJ [0,1,2,3] 0 (bl1:={ge 1 2 3 (E.length:Nat) (1+(T.length:Int)) with ro:=true}) hcl rfl rfl aP rfl rfl (λφ w b h=>BlAt.weaken h true (λ_=>rfl)) rfl pi rfl rfl rfl rfl ?_)|refine an hcn ?_|refine an hen ?_|(refine wX ?_;refine jX [7,4,5,6,8,9] hdc ?_ (wr:=[(7,some (Lj 4 5 6 (E1.length:Nat) (1+(T.length:Int)+1) (1+(T.length:Int)) p (cz t) (.row 10 11 fs.length) (.slc none 0 (some 0)))),(4,some (oB E1)),(5,some (pB E1)),(8,none),(10,nY 10 fs)]) (k2:=gU) (hle:=by exact⟨ah _,ah _,bB (congrArg nI (by rw[hs];omega)),VLe.agg ⟨SLe.refl _,SLe.refl _,SLe.nil,trivial⟩,trivial⟩))|refine RegX.tLen rfl rfl rfl rfl ?_|refine RegX.tNew ⟨p,[]⟩ rfl rfl ?_ ?_ rfl rfl rfl rfl ?_|refine y3 ?_|exact y5|fail)
  all_goals try exact VLe.agg ⟨SLe.refl _,SLe.nil,trivial⟩
  have hB:=hB rfl;have hC:=hC rfl;have hml:=hdg.1.len;have hfl:fs.length<=2048:=ae;refine Ex.frow 85 10 fs rfl rfl rfl rfl ?_;refine Ex.cel 7 8 (s':=.unk) rfl rfl (λφ x h=>Sr.cell h rfl) rfl ?_;refine Ex.cel 7 9 (s':=.row 12 13 0) rfl rfl SLe.nilrow rfl (Ex.upN (n':=14) ac ?_);refine my [0,1,2,3,4,5,6,7,12,13] 126 [(0,.s (.ptr (some (0,0)))),(8,.s (.ptr (some (7,0)))),(85,.s (.frz (λk=>mr (fs.getD k Gy)) 4 fs.length)),(86,nI fs.length),(87,nI 0)] [(0,some (ge 1 2 3 (E.length:Nat) (1+(T.length:Int)))),(1,some (oB E)),(2,some (pB E)),(3,some (tB T)),(4,some (oB E1)),(5,some (pB E1)),(6,some (tB (T++[⟨p,[]⟩]))),(7,some (Lj 4 5 6 (E1.length:Nat) (1+(T.length:Int)+1) (1+(T.length:Int)) p (cz t) .unk (.row 8 9 0)))] rfl rfl ⟨ah _,ah _,ah _,ah _,ah _,trivial⟩ ⟨rfl,rfl,rfl,rfl,rfl,rfl,rfl,rfl,trivial⟩ rfl ?_
  refine cy (σ:=Nat×List Ent×List Int) (λq=>[(87,nI q.1)]) (λq=>[(0,some (ge 1 2 3 (E.length:Nat) (1+(T.length:Int)))),(1,some (oB E)),(2,some (pB E)),(3,some (tB T)),(4,some (oB q.2.1)),(5,some (pB q.2.1)),(6,some (tB (T++[⟨p,[]⟩]))),(7,some (Lj 4 5 6 (q.2.1.length:Nat) (1+(T.length:Int)+1) (1+(T.length:Int)) p (cz t) .unk (.row 8 9 q.2.2.length))),(8,h_ 8 q.2.2)])
   (λq=>q.1<=fs.length/\q.2.1.length=E1.length/\(BitO q.2.1/\RegE (T++[⟨p,[]⟩]) q.2.1)/\RefG E1.length q.2.2/\q.2.2.length<=2*q.1/\gf p (T++[⟨p,[]⟩]) (fs.drop q.1) q.2.1 q.2.2=R) (λq=>fs.length-q.1) (0,E1,[]) rfl (λ_=>rfl) ?_ ?_ ?_ ?_
  ·exact⟨Z08 _,rfl,⟨hdg.2.1,hr1⟩,λr hr=>(by cases hr),Z02 _,hR⟩
  ·exact aP
  ·exact⟨rfl,rfl,rfl,rfl,rfl,rfl,rfl,rfl,trivial⟩
  rintro⟨j,E2,rs⟩ ⟨j1,j2,⟨j3,j4⟩,j5,j6,j7⟩;simp only at j1 j2 j3 j4 j5 j6 j7 |-;by_cases hj:j<fs.length
  ·have hdr:fs.drop j=fs.getD j Gy::fs.drop (j+1):=by rw[Z0k hj,Z00,Z01 hj];rfl
   have hmem:fs.getD j Gy∈fs:=ae;have hd:=(hdg.2.2 _ hmem).mono (N':=E2.length) ae;have hres:=BD (1+(T.length:Int)+1) (1+(T.length:Int)) p (cz t) H .unk rfl (T++[⟨p,[]⟩]) E2 rs aa E.length _ hd j4 j3 _ rfl;have hro:=Do (num:=1+(T.length:Int)) (T:=T++[⟨p,[]⟩]) (i:=(fs.getD j Gy).node.toNat) (rs:=rs) hd j3 ae;rw[hdr,gf] at j7;generalize gk p (T++[⟨p,[]⟩]) (fs.getD j Gy) (fs.getD j Gy).node.toNat E2 rs=Q at hres hro j7;obtain⟨E3,rs3,e⟩:=Q;simp only at hres hro j7;obtain⟨⟨o1,o2⟩,o3,o4,o5⟩:=hro;by_cases he:e=0
   ·subst he
    rw[if_pos rfl] at j7
    repeat'(first|refine yA ?_|refine y2 ?_ ?_|refine y4 λh=>?_|(refine wX ?_;refine jX [7,4,5,6,8,9] hres ?_ (wr:=[(7,some (Lj 4 5 6 (E3.length:Nat) (1+(T.length:Int)+1) (1+(T.length:Int)) p (cz t) .unk (.row 11 12 rs3.length))),(4,some (oB E3)),(5,some (pB E3)),(6,some (tB (T++[⟨p,[]⟩]))),(8,none),(11,h_ 11 rs3)]) (k2:=DN))|exact y5|fail)
    refine fX (j+1,E3,rs3) ⟨ae,ae,⟨o2,RegE.gro H hTn o1 j4⟩,ae,ae,j7⟩ ae [0,1,2,3,4,5,6,7,11,12] rfl ?_ ?_ ?_
    ·repeat'(first|exact ah _|exact dd _|exact Z0o|refine⟨?_,?_⟩)
    ·exact⟨rfl,rfl,rfl,rfl,rfl,rfl,rfl,rfl,bh rfl trivial⟩
    ·unfold h_
     generalize List.map _ rs3=cg
     cases cg<;>rfl
   ·rw[if_neg he] at j7
    obtain⟨rfl,rfl,rfl⟩:=hB ae;subst j7
    repeat'(first|refine yA ?_|refine y2 ?_ ?_|refine y4 λh=>?_|(refine wX ?_;refine jX [7,4,5,6,8,9] hres ?_ (wr:=[(7,some (Lj 4 5 6 (E3.length:Nat) (1+(T.length:Int)+1) (1+(T.length:Int)) p (cz t) .unk (.row 11 12 rs3.length))),(4,some (oB E3)),(5,some (pB E3)),(6,some (tB (T++[⟨p,[]⟩]))),(8,none),(11,h_ 11 rs3)]) (k2:=DN))|exact y5|fail)
    exact⟨.inl rfl,_,[1,2,3],ah _,uI rfl ⟨rfl,rfl,rfl,rfl,trivial⟩ rfl rfl rfl rfl rfl⟩
  ·have hdr:fs.drop j=[]:=ae
   rw[hdr,gf] at j7;subst j7;obtain⟨rfl,rfl,rfl⟩:=hC rfl;simp only
   cases rs with
   |nil=>
    repeat'(first|refine Ex.cel23 7 9 (s':=HN []) rfl rfl SLe.row0 rfl ?_|refine y1 ?_|refine y2 ?_ ?_|refine y4 λh=>?_|refine RegX.tUpd T.length ⟨p,[]⟩ rfl rfl ?_ ?_ ?_ rfl rfl rfl rfl ?_|refine y3 ?_|exact y5|fail)
    all_goals try exact ah _
    have hset:(T++[(⟨p,[]⟩:Tb)]).set T.length ⟨p,[]⟩=T++[⟨p,[]⟩]:=aq;refine⟨.inl rfl,_,[4,5,6],ah _,fY rfl ⟨rfl,rfl,rfl,?_,trivial⟩ rfl rfl rfl rfl⟩;exact (show some (tB ((T++[(⟨p,[]⟩:Tb)]).set T.length ⟨p,[]⟩))=some (tB (T++[⟨p,[]⟩])) by grind)
   |cons r rs=>
    repeat'(first|refine Ex.fzC23 7 9 (λk=>[.int .i64 ((r::rs).getD k 0)]) 1 rfl ac rfl rfl rfl rfl rfl (λ_ _=>rfl) (CU _) rfl ?_|refine y1 ?_|refine y2 ?_ ?_|refine y4 λh=>?_|refine RegX.tUpd T.length ⟨p,r::rs⟩ rfl rfl ?_ ?_ ?_ rfl rfl rfl rfl ?_|refine y3 ?_|exact y5|fail)
    all_goals try exact ah _
    have hset:(T++[(⟨p,[]⟩:Tb)]).set T.length ⟨p,(r::rs)⟩=T++[⟨p,(r::rs)⟩]:=aq;refine⟨.inl rfl,_,[4,5,6],ah _,fY rfl ⟨rfl,rfl,rfl,?_,trivial⟩ rfl rfl rfl rfl⟩;exact (show some (tB ((T++[(⟨p,[]⟩:Tb)]).set T.length ⟨p,(r::rs)⟩))=some (tB (T++[⟨p,(r::rs)⟩])) by grind)
 ·obtain⟨rfl,rfl,rfl⟩:=hA he
  repeat'(first|refine Ex.ld13 7 8 ac rfl rfl rfl ?_|refine y1 ?_|refine y2 ?_ ?_|refine y4 λh=>?_|(refine wX ?_;refine MJ [0,1,2,3] 0 (bl1:={ge 1 2 3 (E.length:Nat) (1+(T.length:Int)) with ro:=true}) hcl rfl rfl aP rfl rfl (λφ w b h=>BlAt.weaken h true (λ_=>rfl)) rfl pi rfl rfl rfl rfl ?_)|refine an hcn ?_|refine an hen ?_|(refine wX ?_;refine jX [7,4,5,6,8,9] hdc ?_ (wr:=[(7,some (Lj 4 5 6 (E1.length:Nat) (1+(T.length:Int)+1) (1+(T.length:Int)) p (cz t) (.row 10 11 fs.length) (.slc none 0 (some 0)))),(4,some (oB E1)),(5,some (pB E1)),(8,none),(10,nY 10 fs)]) (k2:=gU) (hle:=by exact⟨ah _,ah _,bB (congrArg nI (by rw[hs];omega)),VLe.agg ⟨SLe.refl _,SLe.refl _,SLe.nil,trivial⟩,trivial⟩))|refine RegX.tLen rfl rfl rfl rfl ?_|refine RegX.tNew ⟨p,[]⟩ rfl rfl ?_ ?_ rfl rfl rfl rfl ?_|refine y3 ?_|exact y5|fail)
  all_goals try exact VLe.agg ⟨SLe.refl _,SLe.nil,trivial⟩
  exact⟨.inl rfl,_,[1,2,3],ah _,uI rfl ⟨rfl,rfl,rfl,rfl,trivial⟩ rfl rfl rfl rfl rfl⟩
end
structure LoadR (p:List Nd) (E:List Ent) (T:List Tb) (E':List Ent) (T':List Tb) (z e:Int):Prop where
 h:FQ 25 [.s (.ptr (some (0,0))),al p] 4 (oE E T) (.tup [.s (.int .i64 z),.s (.int .i64 e)]) 7 (Lz E' T')
 o:(e≠0/\z=0/\E'=E/\T'=T)\/(e=0/\z=1+(T.length:Int)/\∃ rs,T'=T++[⟨p,rs⟩]/\PrO p/\Gro p (1+(T.length:Int)) E.length E E'/\RefG E'.length rs/\RegE T' E'/\BitO E')
def E0:List Ent:=[cV [92] 10 (-1) 0 0,cV [92,95,83,66] 10 0 0 0,cV [92,95,71,80,69] 10 0 0 0]
theorem I2:FQ 10 [] 0 [] (.s (.ptr (some (0,0)))) 4 [(0,some (ge 1 2 3 3 1)),(1,some (oB E0)),(2,some (pB E0)),(3,some (tB []))]:=by
 refine wW Tryz.func10 ?_
 repeat'(first|refine y1 ?_|refine y2 ?_ ?_|refine RegX.mkM (tx:=76) rf true 14 gX fA rfl ?_|refine RegX.mkM (tx:=77) Lk false 1 iC (λ_=>rfl) rfl ?_|refine RegX.mkM (tx:=78) rf true 2 mC ia rfl ?_|refine y3 ?_|exact y5|fail)
 refine cy (σ:=Nat) (λj=>[(12,nI j)]) (λj=>[(0,some (oB (E0.take j))),(1,some (pB (E0.take j))),(2,some (tB [])),(3,some (ge 0 1 2 3 1)),(4,some {cells:=[.str [92],.str [92,95,83,66],.str [92,95,71,80,69]],ty:=9})]) (λj=>j<=3) (λj=>3-j) 0 rfl (λ_=>rfl) (Z08 _) aP ⟨rfl,rfl,rfl,rfl,rfl,trivial⟩ ?_;intro j hj
 match j,hj with
 |0,_=>
  repeat'(first|refine y1 ?_|refine y2 ?_ ?_|refine y4 λh=>?_|refine RegX.oNew (E:=E0.take 0) (cV [92] 10 (-1) 0 0) rfl rfl rfl (ah _) rfl rfl rfl rfl ?_|refine RegX.pNew (E:=E0.take 0) (cV [92] 10 (-1) 0 0) rfl rfl rfl rfl rfl rfl rfl rfl rfl ?_|refine y3 ?_|exact y5|fail)
  exact dz 1 ac ac rfl aP ⟨rfl,rfl,rfl,rfl,rfl,trivial⟩ rfl rfl ac
 |1,_=>
  repeat'(first|refine y1 ?_|refine y2 ?_ ?_|refine y4 λh=>?_|refine RegX.oNew (E:=E0.take 1) (cV [92,95,83,66] 10 0 0 0) rfl rfl rfl (ah _) rfl rfl rfl rfl ?_|refine RegX.pNew (E:=E0.take 1) (cV [92,95,83,66] 10 0 0 0) rfl rfl rfl rfl rfl rfl rfl rfl rfl ?_|refine y3 ?_|exact y5|fail)
  exact dz 2 ac ac rfl aP ⟨rfl,rfl,rfl,rfl,rfl,trivial⟩ rfl rfl ac
 |2,_=>
  repeat'(first|refine y1 ?_|refine y2 ?_ ?_|refine y4 λh=>?_|refine RegX.oNew (E:=E0.take 2) (cV [92,95,71,80,69] 10 0 0 0) rfl rfl rfl (ah _) rfl rfl rfl rfl ?_|refine RegX.pNew (E:=E0.take 2) (cV [92,95,71,80,69] 10 0 0 0) rfl rfl rfl rfl rfl rfl rfl rfl rfl ?_|refine y3 ?_|exact y5|fail)
  exact dz 3 ac ac rfl aP ⟨rfl,rfl,rfl,rfl,rfl,trivial⟩ rfl rfl ac
 |3,_=>
  repeat'(first|refine yA ?_|refine y2 ?_ ?_|refine y4 λh=>?_|exact y5|fail)
  exact⟨.inl rfl,_,[3,0,1,2],ah _,fY rfl ⟨rfl,rfl,rfl,rfl,trivial⟩ rfl rfl rfl rfl⟩
 |j+4,h=>omega
def objC (x:Ent):List S:=[.str x.path,.int .i64 x.op,.int .i64 x.par,.int .i64 x.tab,.int .i64 x.node]
def iO (E:List Ent) (z:Int):Option Ent:=if z<0 then none else E[z.toNat]?
theorem IZ (E:List Ent) (T:List Tb) (z:Int) (r:Option Ent) (hr:iO E z=r):FQ 27 [.s (.ptr (some (0,0))),nI z] 4 (oE E T) (.tup [.agg (objC (r.getD eZ)),.s (.bool r.isSome)]) 4 (oE E T):=by
 refine wW Tryz.func27 ?_
 repeat'(first|refine y1 ?_|refine y2 ?_ ?_|refine RegX.oLkT r rfl rfl rfl rfl rfl rfl hr rfl ?_|refine y3 ?_|exact y5|fail)
 exact bK
theorem Eh (E:List Ent) (T:List Tb) (s nm:By) (hs:s.length<9223372036854775807) (hn:nm.length<9223372036854775807):
 FQ 20 [.s (.ptr (some (0,0))),sV s,sV nm] 4 (oE E T) (.tup [.s (.int .i64 (((fw E s nm).getD 0:Nat):Int)),.s (.bool (fw E s nm).isSome)]) 4 (oE E T):=by
 have h1:=gq s hs;have h2:=gq nm hn;have hv:= @lJ s;unfold fw;generalize ai s=r1 at h1 hv |-;generalize ai nm=r2 at h2 |-;obtain⟨q1,ok1⟩:=r1;obtain⟨q2,ok2⟩:=r2;refine wW Tryz.func20 ?_;cases ok1
 ·
  repeat'(first|refine yA ?_|refine y2 ?_ ?_|refine an h1 ?_|exact y5|fail)
  exact bK
 cases ok2
 ·
  repeat'(first|refine yA ?_|refine y2 ?_ ?_|refine an h1 ?_|refine an h2 ?_|exact y5|fail)
  exact bK
 simp only[and_self,if_true];have hcd:=ze q1 q2;have hroot:= @lb q1 q2;have hcl:=ny q1 q2;obtain⟨hu0,_,hseg,_,_,_⟩:=aR (hv rfl);simp only at hseg hu0;generalize aS q1 q2=cs at*
 repeat'(first|refine yA ?_|refine y2 ?_ ?_|refine an h1 ?_|refine an h2 ?_|refine an hcd ?_|exact y5|fail)
 refine cy (σ:=Nat) (λj=>[(33,nI j)]) (λj=>oE E T) (λj=>j<=cs.length/\Ax E (cs.drop j)=Ax E cs) (λj=>cs.length-j) 0 rfl (λ_=>rfl) ⟨Z08 _,rfl⟩ aP ⟨rfl,rfl,rfl,rfl,trivial⟩ ?_;rintro j ⟨j1,j2⟩;by_cases hj:j<cs.length
 ·rw[Z0k hj] at j2
  have hg:cs.getD j z0=cs[j]:=by simp[Z00,hj]
  have hrt:(cs.getD j z0).root=true:=by rw[hg];exact hroot _ (Z0s hj)
  have hf:=qh (cs.getD j z0) hrt;rw[<-hg,Ax] at j2
  cases hl:oP 0 E (aM (cs.getD j z0)) with
  |none=>
   rw[hl] at j2
   repeat'(first|refine y1 ?_|refine y2 ?_ ?_|refine y4 λh=>?_|refine an hf ?_|refine RegX.pLk none rfl rfl rfl rfl rfl rfl hl rfl ?_|refine y3 ?_|exact y5|fail)
   exact dz (j+1) ⟨hj,j2⟩ aa rfl aP ⟨rfl,rfl,rfl,rfl,trivial⟩ rfl rfl ac
  |some k=>
   rw[hl] at j2;simp only at j2
   repeat'(first|refine y1 ?_|refine y2 ?_ ?_|refine y4 λh=>?_|refine an hf ?_|refine RegX.pLk (some k) rfl rfl rfl rfl rfl rfl hl rfl ?_|refine y3 ?_|exact y5|fail)
   rw[<-j2];exact bK
 ·have hd:cs.drop j=[]:=by simp;omega
  rw[hd] at j2;simp only[Ax] at j2;rw[<-j2]
  repeat'(first|refine yA ?_|refine y2 ?_ ?_|refine y4 λh=>?_|exact y5|fail)
  all_goals exact bK
theorem zC {p:List Nd}:∀ {t t':Fo} {i:Nat},t.At p i->t'.At p i->t.cnt=t'.cnt->t=t'
 | .nil,.nil,_,_,_,_=>rfl
 | .nil,.cons _ _ _,_,_,_,h=>by simp[Fo.cnt] at h
 | .cons _ _ _,.nil,_,_,_,h=>by simp[Fo.cnt] at h
 | .cons x k n,.cons x' k' n',i,h1,h2,h=>by
   obtain⟨a1,a2,a3,a4⟩:=h1;obtain⟨b1,b2,b3,b4⟩:=h2;rw[a1] at b1;cases b1;have hk:=zC a3 b3 aa;subst hk;have hn:=zC a4 b4 (by simp only[Fo.cnt] at h;omega);subst hn;rfl
theorem Jr {p:List Nd}:∀ {t t':Fo} {i:Nat},t.At p i->t'.At p i->t.size=t'.size->t=t'
 | .nil,.nil,_,_,_,_=>rfl
 | .nil,.cons _ _ _,_,_,_,h=>by simp only[Fo.size] at h;omega
 | .cons _ _ _,.nil,_,_,_,h=>by simp only[Fo.size] at h;omega
 | .cons x k n,.cons x' k' n',i,h1,h2,h=>by
   obtain⟨a1,a2,a3,a4⟩:=h1;obtain⟨b1,b2,b3,b4⟩:=h2;rw[a1] at b1;cases b1;have hk:=zC a3 b3 aa;subst hk;have hn:=Jr a4 b4 (by simp only[Fo.size] at h;omega);subst hn;rfl
def awT:Fo:=.cons ⟨11,0,[],2⟩ (.cons ⟨3,0,[88],0⟩ .nil (.cons ⟨4,0,[],1⟩ (.cons ⟨13,0,[],2⟩ (.cons ⟨3,0,[95,65,68,82],0⟩ .nil (.cons ⟨1,1,[],0⟩ .nil .nil)) .nil) .nil)) .nil
def Im:List Ent:=E0++[cV [92,88] 11 0 1 0,cV [92,88,46,95,65,68,82] 13 3 1 3]
theorem MD:awT.At awP 0:=by
 unfold awT
 repeat'(first|exact trivial|exact rfl|refine⟨?_,?_⟩)
theorem xh:eR awP=true:=by decide+kernel
theorem ME:lD awP (anS awP awT).F (anS awP awT).S awT awP.length 0 (anS awP awT).G=[]:=by decide+kernel
theorem KT:fO []=[]:=by simp[fO]
theorem aw_D:aX awP 1 false awT 0 ⟨true,0,[]⟩ E0 []=(Im,[],0):=aK
theorem Ji:BitO E0:=by
 intro k
 match k with
 |0=>exact (ac:(0:Int)<=1099511627776)
 |1=>exact (ac:(0:Int)<=1099511627776)
 |2=>exact (ac:(0:Int)<=1099511627776)
 |k+3=>exact (ac:(0:Int)<=1099511627776)
theorem IT:RegE [] E0:=by
 intro k hk ho
 match k,hk with
 |0,_=>exact absurd ho ac
 |1,_=>exact absurd ho ac
 |2,_=>exact absurd ho ac
theorem Il:FQ 12 [] 0 [] (bV true) 0 []:=by
 have hw:oh awP:=by
  intro x hx;have:∀ x∈awP,x.str.length<=10:=ac;have:=this x hx;omega
 have hI:li awP:=by
  have:∀ x∈awP,0<=x.int:=ac;exact this
 obtain⟨h1,t,ha,hv,hd,hs⟩:=ll xh;have ht:t=awT:=Jr ha MD (by rw[hs];rfl);subst ht;have hck:=sj awP hw hI xh h1 awT ha hv hs
 have h6:C6 (lD awP (anS awP awT).F (anS awP awT).S awT awP.length 0 (anS awP awT).G):=by rw[ME];intro d hd;cases hd
 have H:PrO awP:=⟨h1,hw,hI,λj hj=>FN h6 j hj,λj hj=>by
  obtain⟨sl,h1,h2⟩:=cM ha hv (Z08 _) (aa:j<0+awT.size)
  exact yn h1 h2⟩
 rw[ME,KT] at hck;have hen:=E6 awP h1 ac awT ha hv hs
 have hld:=Ej awP H [] ac hck (λd hd=>by cases hd) awT ha hv hs (wS ha hv hs) hen E0 [] ac IT Ji _ aw_D (Im,[],0) rfl _ _ _ (λh=>absurd rfl h) (λ_ h=>absurd rfl h) λ_ _=>⟨rfl,rfl,rfl⟩
 have hpa:=Hj;have hn:=I2;have l1:=Eh Im [⟨awP,[]⟩] [92,88] [95,65,68,82] ac ac;rw[show fw Im [92,88] [95,65,68,82]=some 4 by kernel_rfl] at l1;have l2:=Eh Im [⟨awP,[]⟩] [92,88] [88] ac ac;rw[show fw Im [92,88] [88]=some 3 by kernel_rfl] at l2;have ho:=IZ Im [⟨awP,[]⟩] 4 (some (cV [92,88,46,95,65,68,82] 13 3 1 3)) rfl;refine wW Tryz.func12 ?_
 repeat'(first|refine yA ?_|refine y2 ?_ ?_|refine y4 λh=>?_|refine an hpa ?_|refine wX (bD [] hn ?_)|(refine wX ?_;refine kF [0,1,2,3] hld rfl rfl rfl rfl rfl aP pi rfl rfl (wr:=[(0,some (ge 4 5 6 5 2)),(1,none),(2,none),(3,none),(4,some (oB Im)),(5,some (pB Im)),(6,some (tB [⟨awP,[]⟩]))]) (by rfl) ?_)|refine wX (bD [0,4,5,6] l1 ?_)|refine wX (bD [0,4,5,6] l2 ?_)|refine wX (bD [0,4,5,6] ho ?_)|exact y5|fail)
 refine RegX.atCmp (CmpG.go rfl rfl ⟨⟨aK,aK⟩,trivial⟩ (BrG.any (λh=>?_) (λh=>?_)))
 ·
  repeat'(first|refine yA ?_|refine y2 ?_ ?_|exact y5|fail)
  exact cL (.inl rfl) rfl rfl
 ·exfalso;revert h;decide
