import Derived.Test.YtegjgpldfgjoiaaGreatDoorCnJ30
import Derived.Test.YtegjgpldfgjoiaaGreatDoorCnJ32
set_option linter.all false
set_option maxHeartbeats 40000000
set_option maxRecDepth 100000
namespace Go.Proofs.YtegjgpldfgjoiaaGreatDoor
open Go Ab
section
variable {P:Program} {b:Nat} {env:List V} {n:Nat} {L:Hp} {R:Post}
theorem Ex.celP {c:Code} (j o:Nat) {s s':S} {bl:Bl} (hl:lk L j=some bl) (ho:bl.cells[o]? =some s) (hle:SLe s s') {L':Hp} (hL:put L j (some {bl with cells:=bl.cells.set o s'})=L') (k:Ex P b c env n L' R):Ex P b c env n L R:=by
 subst hL;refine Ex.subF (λi bl' hi=>?_) k;rw[aC] at hi;split at hi
 ·rename_i e;subst e;cases hi
  refine⟨bl,hl,rfl,λφ w c h=>?_⟩;obtain⟨pre,xs,rest,fr,h1,hp,h2,h3,h4,h5⟩:=h;exact⟨pre,xs,rest,fr,h1,hp,fE h2 (λx hx=>hle _ _ (gO h2 ho hx)),h3,h4,h5⟩
 ·exact⟨bl',hi,rfl,λ_ _ _ h=>h⟩
theorem Ex.celR (id:Nat) {ops:Array Oper} {d:Bool} (j o:Nat) {s s':S} {bl:Bl} (hl:lk L j=some bl) (ho:bl.cells[o]? =some s) (hle:SLe s s') {L':Hp} (hL:put L j (some {bl with cells:=bl.cells.set o s'})=L') (k:Ex P b (.region id ops d) env n L' R):Ex P b (.region id ops d) env n L R:=Ex.celP j o hl ho hle hL k
end
theorem wl {p:List Nd} {k:Nat} {z:Int} (hk:k<p.length):bW (p.flatMap ndC) (k*4+3) [.int .i64 z]=(p.set k {p.getD k dN with kids:=z}).flatMap ndC:=ie (g:=ndC) (d:=dN) (λ_=>rfl) aq hk rfl
abbrev re (out:List Nd) (at_:Nat) (z:Int):List Nd:=out.set at_ {out.getD at_ dN with kids:=z}
theorem Aq {g:Nat} {q:List Nd} (h:0<q.length):nB g q=some {cells:=q.flatMap ndC,ty:=49,more:=true,sym:=true,flat:=true,gh:=some (g+1,4)}:=by
 cases q with
 |nil=>exact absurd h (Z40 0)
 |cons x q=>rfl
abbrev zB (ts:List Tk) (k:Int) (i:Nat) (out:List Nd) (i':Nat) (out':List Nd):Prop:=FQ 144 [.s (.ptr (some (0,0))),n8 k] 3 (JR ts i out) .any 5 (vJ ts i' out')
inductive ArgS (ts:List Tk):By->Bool->Nat->List Nd->Nat->List Nd->Prop
 |nil {b:Bool} {i:Nat} {out:List Nd}:ArgS ts [] b i out i out
 |cons {k:UInt8} {ks:By} {b:Bool} {i j i1 i2:Nat} {out out1 out2:List Nd} (hk:uu (k.toNat:Int)=false) (hc:b=false->j=i+1/\Gx ts i=9/\i<ts.length) (hc':b=true->j=i) (hn:jZ ts (k.toNat:Int) j out i1 out1) (r:ArgS ts ks false i1 out1 i2 out2):ArgS ts (k::ks) b i out i2 out2
inductive BlkS (ts:List Tk):By->Nat->List Nd->Nat->List Nd->Prop
 |nil {i:Nat} {out:List Nd}:BlkS ts [] i out i out
 |cons {k:UInt8} {ks:By} {i i1 i2:Nat} {out out1 out2:List Nd} (hk:uu (k.toNat:Int)=true) (hn:zB ts (k.toNat:Int) i out i1 out1) (r:BlkS ts ks i1 out1 i2 out2):BlkS ts (k::ks) i out i2 out2
theorem qy (ts:List Tk) (hts:ts.length<=100000) (as_ bs:By) (hl:(as_++bs).length<=100) (at_:Nat) (i i1 i':Nat) (out out1 out':List Nd) (ha:at_<out.length) (ho:out.length<=100000) (h5:Gx ts i=5) (hi:i<ts.length) (hA:ArgS ts as_ true (i+1) (re out at_ (as_++bs).length) i1 out1) (h6:Gx ts i1=6) (hi1:i1<ts.length) (hB:BlkS ts bs (i1+1) out1 i' out'):
 FQ 143 [.s (.ptr (some (0,0))),nI at_,sV (as_++bs)] 3 (JR ts i out) .any 5 (vJ ts i' out'):=by
 obtain⟨x0,o,rfl⟩:∃ x0 o,out=x0::o:=by
  cases out with
  |nil=>exact absurd ha (Z1m _)
  |cons x0 o=>exact⟨x0,o,rfl⟩
 have hsz:(Tryz.prog.types[49]).size=4:=aK;have hks:bW ((x0::o).flatMap ndC) (at_*4+3) [.int .i64 ((as_++bs).length:Nat)]=(re (x0::o) at_ (as_++bs).length).flatMap ndC:=wl ha
 have hkl:(re (x0::o) at_ (as_++bs).length).length=o.length+1:=by simp[re]
 generalize re (x0::o) at_ (as_++bs).length=q at*;have ht:=px ts i (o.length+1) 5 hts hi h5;generalize hll:as_++bs=l at*;refine wW Tryz.func143 ?_;refine Ex.celP 0 2 (s':=.sla 1 2 (o.length+1)) rfl rfl (SLe.rowsla (Z1n _)) rfl ?_
 repeat'(first|refine Ex.celR 1 0 2 (s':=.row 1 2 (o.length+1)) rfl rfl (SLe.slarow (Z1n _)) rfl ?_|refine y1 ?_|refine y2 ?_ ?_|refine wX (bD [0,1,2] ht ?_)|refine RegX.sto [.cells (q.flatMap ndC)] rfl rfl ⟨?_,?_⟩ rfl ?_|refine y3 ?_|exact y5|fail)
 ·rw[hsz,ak,ak,ao,Z0c]
  show at_*4+3+1<=((x0::o).flatMap ndC).length;rw[lO];omega
 ·rw[hsz,ak,ak,ao,Z0c];exact hks.symm
 have hq:nB 1 q=some {cells:=q.flatMap ndC,ty:=49,more:=true,sym:=true,flat:=true,gh:=some (2,4)}:=Aq aa;refine my [0,1,2,1,2] 67 [(0,.s (.ptr (some (0,0)))),(1,nI at_),(2,sV l),(6,nI 0)] [(0,some (ti 3 4 ts (i+1) q.length)),(3,nB 3 q)] rfl rfl ⟨ah _,ah _,ah _,ah _,trivial⟩ ⟨by rw[hkl];rfl,bh hq.symm trivial⟩ (by unfold nB;generalize List.flatMap _ _=cg;cases cg<;>rfl) ?_;refine cy (σ:=By×By×Nat×List Nd) (λs=>[(6,nI s.1.length)]) (λs=>[(0,some (ti 3 4 ts s.2.2.1 s.2.2.2.length)),(3,nB 3 s.2.2.2)]) (λs=>s.1++s.2.1=as_/\ArgS ts s.2.1 s.1.isEmpty s.2.2.1 s.2.2.2 i1 out1) (λs=>s.2.1.length) ([],as_,i+1,q) rfl (λ_=>rfl) ⟨rfl,hA⟩ aP ⟨rfl,fF rfl trivial⟩ ?_;clear hA hks hkl hq ht;rintro⟨D,R,j,u⟩ ⟨d1,d2⟩;simp only at d1 d2 |-
 cases d2 with
 |nil=>
  rw[Z0u] at d1;subst d1
  have hbl:D.length<l.length->uu ((l.getD D.length 0).toNat:Int)=true:=λh=>by
   subst hll
   cases hB with
   |nil=>simp at h
   | @cons k _ _ _ _ _ _ _ hk _ _=>
     rw[show (D++k::_).getD D.length 0=k by simp];exact hk
  have hbk:=ut ((l.getD D.length 0).toNat:Int);have ht:=px ts i1 out1.length 6 hts hi1 h6
  repeat'(first|refine yA ?_|refine y2 ?_ ?_|(refine y4 λh=>?_;try(first|(first|contradiction|(exfalso;omega)|(rw[hbl aa] at h;cases h))|exact y6))|refine bG hbk ?_|refine wX (bD [0,3,4] ht ?_)|exact y5|fail)
  all_goals
   refine cy (σ:=By×By×Nat×List Nd) (λs=>[(6,nI s.1.length)]) (λs=>[(0,some (ti 3 4 ts s.2.2.1 s.2.2.2.length)),(3,nB 3 s.2.2.2)]) (λs=>s.1++s.2.1=l/\BlkS ts s.2.1 s.2.2.1 s.2.2.2 i' out') (λs=>s.2.1.length) (D,bs,i1+1,out1) rfl (λ_=>rfl) ⟨hll,hB⟩ aP ⟨rfl,fF rfl trivial⟩ ?_;clear hB hll hbl hbk ht;rintro⟨D,R,j,u⟩ ⟨d1,d2⟩;simp only at d1 d2 |-
   cases d2 with
   |nil=>
    rw[Z0u] at d1;subst d1
    repeat'(first|refine yA ?_|refine y2 ?_ ?_|refine y4 λh=>?_|exact y5|fail)
    exact Fin.p5 3 (.tup []) (.inr rfl) rfl rfl rfl (dd _) rfl rfl
   | @cons k R' _ i2 _ _ u1 _ hk hn r=>
     have hget:l.getD D.length 0=k:=by rw[<-d1];simp
     have hlen:D.length<l.length:=by rw[<-d1];simp
     repeat'(first|refine yA ?_|refine y2 ?_ ?_|refine y4 λh=>?_|(refine wX ?_;refine jX [0,3,4] hn ?_ (wr:=[(0,some (ti 5 6 ts i2 u1.length)),(3,none),(5,nB 5 u1)]) (k2:=gT) (hle:=by exact⟨ah _,bB (congrArg (λz:UInt8=>V.s (S.int .u8 (z.toNat:Int))) hget),trivial⟩))|exact y5|fail)
     refine fX (D++[k],R',i2,u1) ⟨?_,?_⟩ (by simp only[Z04];omega) [0,1,2,5,6] rfl ?_ ?_ ?_
     ·rw[<-d1];simp
     ·exact r
     ·repeat'(first|exact ah _|exact dd _|exact Z0o|exact bB (congrArg nI aq)|refine⟨?_,?_⟩)
     ·exact⟨rfl,bh rfl trivial⟩
     ·unfold nB
      generalize List.flatMap _ _=cg
      cases cg<;>rfl
 | @cons k R' _ _ j' i2 _ _ u1 _ hk hc hc' hn r=>
   have hget:l.getD D.length 0=k:=by rw[<-hll,<-d1];simp
   have hlen:D.length<l.length:=by rw[<-hll,<-d1];simp
   have hbk:=ut ((l.getD D.length 0).toNat:Int);rw[show uu ((l.getD D.length 0).toNat:Int)=false by rw[hget];exact hk] at hbk
   cases D with
   |nil=>
    obtain rfl:=hc' rfl
    repeat'(first|refine yA ?_|refine y2 ?_ ?_|refine y4 λh=>?_|refine bG hbk ?_|(refine wX ?_;refine jX [0,3,4] hn ?_ (wr:=[(0,some (ti 5 6 ts i2 u1.length)),(3,none),(5,nB 5 u1)]) (k2:=gT) (hle:=by exact⟨ah _,bB (congrArg (λz:UInt8=>V.s (S.int .u8 (z.toNat:Int))) hget),trivial⟩))|exact y5|fail)
    refine fX ([k],R',i2,u1) ⟨?_,?_⟩ (by simp only[Z04];omega) [0,1,2,5,6] rfl ?_ ?_ ?_
    ·rw[<-d1];simp
    ·exact r
    ·repeat'(first|exact ah _|exact dd _|exact Z0o|refine⟨?_,?_⟩)
    ·exact⟨rfl,bh rfl trivial⟩
    ·unfold nB
     generalize List.flatMap _ _=cg
     cases cg<;>rfl
   |cons d0 D'=>
    obtain⟨rfl,h9,hjl⟩:=hc rfl;have hDl:0<(d0::D').length:=Z1n _;have ht9:=px ts j u.length 9 hts hjl h9
    repeat'(first|refine yA ?_|refine y2 ?_ ?_|refine y4 λh=>?_|refine bG hbk ?_|refine wX (bD [0,3,4] ht9 ?_)|(refine wX ?_;refine jX [0,3,4] hn ?_ (wr:=[(0,some (ti 5 6 ts i2 u1.length)),(3,none),(5,nB 5 u1)]) (k2:=gT) (hle:=by exact⟨ah _,bB (congrArg (λz:UInt8=>V.s (S.int .u8 (z.toNat:Int))) hget),trivial⟩))|exact y5|fail)
    refine fX (d0::D'++[k],R',i2,u1) ⟨?_,?_⟩ (by simp only[Z04];omega) [0,1,2,5,6] rfl ?_ ?_ ?_
    ·rw[<-d1];simp
    ·exact r
    ·repeat'(first|exact ah _|exact dd _|exact Z0o|exact bB (congrArg nI aq)|refine⟨?_,?_⟩)
    ·exact⟨rfl,bh rfl trivial⟩
    ·unfold nB
     generalize List.flatMap _ _=cg
     cases cg<;>rfl
theorem vP (ts:List Tk) (k:Int) (i i':Nat) (out out':List Nd) (op:Int) (hts:ts.length<=100000) (hi:i<ts.length) (ho:out.length<=100000) (hx:sD ts i out.length ⟨op,0,[],0⟩) (hop:op=11\/op=13) (hk:k≠83/\k≠101/\k≠115) (hp:bH k op=true)
 (hc:FQ 143 [.s (.ptr (some (0,0))),nI out.length,sV (pD op).1.2.2] 3 (JR ts (i+1) (out++[⟨op,0,[],0⟩])) .any 5 (vJ ts i' out')):jZ ts k i out i' out':=by
 have hpe:=pH k op;rw[hp] at hpe;have hro:=sZ op;have had:=F2 ts (i+1) out ⟨op,0,[],0⟩ ho;have hol:(out++[(⟨op,0,[],0⟩:Nd)]).length=out.length+1:=aq;obtain⟨h83,h101,h115⟩:=hk;generalize pD op=r at*;obtain⟨⟨r1,r2,ks⟩,rb⟩:=r
 rcases hop with rfl|rfl
 all_goals
  refine wW Tryz.func81 ?_
  repeat'(first|refine yA ?_|refine y2 ?_ ?_|(refine y4 λh=>?_;try(first|(first|contradiction|(exfalso;omega)|(exfalso;simp at h;done))|exact y6))|refine bG hpe ?_|refine an hro ?_|refine wX (bD [0,1,2] hx ?_)|(refine wX ?_;refine jX [0,1,2] had ?_ (wr:=[(0,some (ti 4 5 ts (i+1) (out++[_]).length)),(1,none),(4,nB 4 (out++[_]))]) (k2:=gT))|(refine wX ?_;refine jX [0,4,5] hc ?_ (wr:=[(0,some (ti 7 8 ts i' out'.length)),(4,none),(7,nB 7 out')]) (k2:=gT))|exact y5|fail)
  all_goals exact Fin.p5 7 (.tup []) (.inr rfl) rfl rfl rfl (dd _) rfl rfl
theorem cD {sz o:Nat} {bl:Bl} {x:S} (h:bl.kind=none) (h1:bl.cells[o]? =some x):eO false sz bl o=some (.s x):=by
 unfold eO;rw[h];simp only;rw[h1]
inductive ElS (ts:List Tk) (k:Int) (m at_:Nat):Nat->Nat->List Nd->Nat->List Nd->Prop
 |nil {c i:Nat} {out:List Nd}:ElS ts k m at_ c i out i out
 |cons {c i i1 i2:Nat} {out out1 out2:List Nd} (h:Gx ts i≠8) (hn:jZ ts k i (re out at_ ((c:Int)+1)) i1 out1) (ho:at_<out1.length) (hc:c<m) (h1:(out1.getD at_ dN).kids=((c+1:Nat):Int)) (r:ElS ts k m at_ (c+1) i1 out1 i2 out2):ElS ts k m at_ c i out i2 out2
theorem Ig (ts:List Tk) (hts:ts.length<=100000) (k:Int) (hk:k≠73/\k≠80) (m i i':Nat) (out out':List Nd) (hmm:m<=100000) (ho:out.length<=100000) (h7:Gx ts i=7) (hi:i<ts.length) (hE:ElS ts k m out.length 0 (i+1) (out++[⟨4,0,[],0⟩]) i' out') (h8:Gx ts i'=8) (hi':i'<ts.length):zB ts k i out (i'+1) out':=by
 have hsz:(Tryz.prog.types[49]).size=4:=aK;have ht:=px ts i out.length 7 hts hi h7;have had:=F2 ts (i+1) out ⟨4,0,[],0⟩ ho;obtain⟨h73,h80⟩:=hk;refine wW Tryz.func144 ?_
 repeat'(first|refine yA ?_|refine y2 ?_ ?_|refine wX (bD [0,1,2] ht ?_)|(refine wX ?_;refine jX [0,1,2] had ?_ (wr:=[(0,some (ti 3 4 ts (i+1) (out++[(⟨4,0,[],0⟩:Nd)]).length)),(1,none),(3,nB 3 (out++[(⟨4,0,[],0⟩:Nd)]))]) (k2:=gT))|exact y5|fail)
 have hout:out.length<(out++[(⟨4,0,[],0⟩:Nd)]).length:=aq;have hk0:((out++[(⟨4,0,[],0⟩:Nd)]).getD out.length dN).kids=((0:Nat):Int):=aq;generalize out++[(⟨4,0,[],0⟩:Nd)]=q at*;clear ht had ho h7 hi;generalize out.length=at_ at*;refine cy (σ:=Nat×Nat×List Nd) (λs=>[]) (λs=>[(0,some (ti 3 4 ts s.2.1 s.2.2.length)),(3,nB 3 s.2.2)]) (λs=>at_<s.2.2.length/\(s.2.2.getD at_ dN).kids=(s.1:Int)/\ElS ts k m at_ s.1 s.2.1 s.2.2 i' out') (λs=>m-s.1) (0,i+1,q) rfl (λ_=>rfl) ⟨hout,hk0,hE⟩ trivial ?_ ?_
 ·exact⟨rfl,fF rfl trivial⟩
 clear hout hk0 hE;rintro⟨c,i,q⟩ ⟨d1,d2,d3⟩;simp only at d1 d2 d3 |-
 cases d3 with
 |nil=>
  have hkd:=yz ts i' out'.length hts;rw[h8] at hkd;have ht:=px ts i' out'.length 8 hts hi' h8
  repeat'(first|refine yA ?_|refine y2 ?_ ?_|refine y4 λh=>?_|refine wX (bD [0,3,4] hkd ?_)|refine wX (bD [0,3,4] ht ?_)|exact y5|fail)
  all_goals exact Fin.p5 3 (.tup []) (.inr rfl) rfl rfl rfl (dd _) rfl rfl
 | @cons _ _ i1 _ _ out1 _ h hn ho1 hc h1 r=>
   obtain⟨x0,o,rfl⟩:∃ x0 o,q=x0::o:=by
    cases q with
    |nil=>exact absurd d1 (Z1m _)
    |cons x0 o=>exact⟨x0,o,rfl⟩
   have hks:bW ((x0::o).flatMap ndC) (at_*4+3) [.int .i64 ((c:Int)+1)]=(re (x0::o) at_ ((c:Int)+1)).flatMap ndC:=wl d1
   have hkl:(re (x0::o) at_ ((c:Int)+1)).length=o.length+1:=by simp[re]
   have hld:((x0::o).flatMap ndC)[at_*4+3]? =some (.int .i64 (c:Int)):=cq ndC 4 dN (λ_=>rfl) d1 (by rw[<-d2];rfl);have hkd:=yz ts i (o.length+1) hts;generalize re (x0::o) at_ ((c:Int)+1)=q2 at*;have hq:nB 3 q2=some {cells:=q2.flatMap ndC,ty:=49,more:=true,sym:=true,flat:=true,gh:=some (4,4)}:=Aq aa
   repeat'(first|refine Ex.celR 5 0 2 (s':=.sla 3 4 (o.length+1)) rfl rfl (SLe.rowsla (Z1n _)) rfl ?_|refine Ex.celR 6 0 2 (s':=.row 3 4 q2.length) rfl rfl (by rw[hkl];exact SLe.slarow (Z1n _)) rfl ?_|refine y1 ?_|refine y2 ?_ ?_|refine y4 λh=>?_|refine wX (bD [0,3,4] hkd ?_)|(refine wX ?_;refine jX [0,3,4] hn ?_ (wr:=[(0,some (ti 5 6 ts i1 out1.length)),(3,none),(5,nB 5 out1)]) (k2:=gT) (ft:=by exact⟨⟨rfl,_,rfl,rfl,λh=>h⟩,mp rfl hq.symm trivial⟩))|refine gG [.val (nI c)] rfl rfl ?_ rfl ?_|refine RegX.sto [.cells (q2.flatMap ndC)] rfl rfl ⟨?_,?_⟩ rfl ?_|refine y3 ?_|exact y5|fail)
   ·rw[hsz,ak,ak,ao,Z0c]
    exact cD rfl hld
   ·rw[hsz,ak,ak,ao,Z0c]
    show at_*4+3+1<=((x0::o).flatMap ndC).length;rw[lO];omega
   ·rw[hsz,ak,ak,ao,Z0c];exact hks.symm
   refine fX (c+1,i1,out1) ⟨ho1,h1,r⟩ (by show m-(c+1)<m-c;omega) [0,1,2,5,6] rfl ?_ ?_ ?_
   ·repeat'(first|exact ah _|exact dd _|exact Z0o|refine⟨?_,?_⟩)
   ·exact⟨rfl,bh rfl trivial⟩
   ·unfold nB
    generalize List.flatMap _ _=cg
    cases cg<;>rfl
abbrev Ro:=Int×Ent
def Lh (x:Ent):List S:=[.str x.path,.int .i64 x.op,.int .i64 x.par,.int .i64 x.tab,.int .i64 x.node]
def nP (r:Ro):List S:=.int .i64 r.1::Lh r.2
abbrev dO:Ro:=(0,eZ)
abbrev oR (O:List Ro):Bl:={cells:=O.flatMap nP,ty:=88,more:=true,sym:=true,flat:=true,gh:=some (2,6)}
abbrev Dh (m nt nl:Nat) (nx nh:Int):Bl:={cells:=[.sla 1 2 m,.row 3 4 nt,.row 5 6 nl,.int .i64 nx,.int .i64 nh],ty:=93}
abbrev rsV (O:List Ro) (nt nl:Nat) (nx nh:Int):Hp:=[(0,some (Dh O.length nt nl nx nh)),(1,some (oR O))]
abbrev CF (O:List Ro):Bl:={oR O with ro:=true}
abbrev qV (m nt nl:Nat) (nx nh:Int):Bl:={Dh m nt nl nx nh with ro:=true}
abbrev uN (O:List Ro) (nt nl:Nat) (nx nh:Int):Hp:=[(0,some (qV O.length nt nl nx nh)),(1,some (CF O))]
def qO (s:By):List Ro->Int
 |[]=> -1
 |r::t=>if r.2.path=s then r.1 else qO s t
def fu (z:Int):List Ro->Option Ent
 |[]=>none
 |r::t=>if r.1=z then some r.2 else fu z t
theorem mN {O:List Ro} {j o:Nat} {x:S} (hj:j<O.length) (hx:(nP (O.getD j dO))[o]? =some x):(O.flatMap nP)[j*6+o]? =some x:=cq nP 6 dO (λ_=>rfl) hj hx
theorem th {O:List Ro} {j:Nat} (h:j<O.length):O.drop j=O.getD j dO::O.drop (j+1):=by
 rw[Z0k h,Z00,Z01 h];rfl
theorem KV (O:List Ro) (nt nl:Nat) (nx nh:Int) (s:By) (hO:O.length<=100000) (h0:0<O.length):FQ 53 [.s (.ptr (some (0,0))),sV s] 7 (uN O nt nl nx nh) (nI (qO s O)) 7 (uN O nt nl nx nh):=by
 have hsz:(Tryz.prog.types[88]).size=6:=aK;refine wW Tryz.func53 ?_;generalize hR:qO s O=R
 repeat'(first|refine yA ?_|refine y2 ?_ ?_|exact y5|fail)
 refine cy (σ:=Nat) (λj=>[(5,nI j)]) (λ_=>uN O nt nl nx nh) (λj=>j<=O.length/\qO s (O.drop j)=R) (λj=>O.length-j) 0 rfl (λ_=>rfl) ⟨Z08 _,hR⟩ aP ⟨rfl,rfl,trivial⟩ ?_;rintro j ⟨hj,hI⟩;by_cases h:j<O.length
 ·rw[th h] at hI
  simp only[qO] at hI;have hp:(O.flatMap nP)[j*6+1]? =some (.str (O.getD j dO).2.path):=mN h rfl;have hi:(O.flatMap nP)[j*6+0]? =some (.int .i64 (O.getD j dO).1):=mN h rfl;by_cases ho:(O.getD j dO).2.path=s
  ·rw[if_pos ho] at hI
   subst hI
   repeat'(first|refine y1 ?_|refine y2 ?_ ?_|refine y4 λh=>?_|refine gG [.val (sV (O.getD j dO).2.path)] rfl rfl (by rw[hsz,ak,ak,ak,ao,Z0c];exact cD rfl hp) rfl ?_|refine gG [.val (nI (O.getD j dO).1)] rfl rfl (by rw[hsz,ak,ak,ao,Z0c];exact cD rfl hi) rfl ?_|refine y3 ?_|exact y5|fail)
   all_goals exact bK
  ·rw[if_neg ho] at hI
   repeat'(first|refine y1 ?_|refine y2 ?_ ?_|refine y4 λh=>?_|refine gG [.val (sV (O.getD j dO).2.path)] rfl rfl (by rw[hsz,ak,ak,ak,ao,Z0c];exact cD rfl hp) rfl ?_|refine y3 ?_|exact y5|fail)
   exact dz (j+1) ⟨aa,hI⟩ aa rfl aP ⟨rfl,rfl,trivial⟩ rfl rfl ac
 ·rw[Z10 aa] at hI
  subst hI
  repeat'(first|refine yA ?_|refine y2 ?_ ?_|refine y4 λh=>?_|exact y5|fail)
  exact bK
theorem oH:∀ l:List Ro,(l.flatMap nP).length=l.length*6
 |[]=>rfl
 |r::t=>by rw[Z0g,Z03,oH t,Z04];show 6+_=_;omega
theorem JP {O:List Ro} {j:Nat} (h:j<O.length):eO true 5 (CF O) (j*6+1)=some (.agg (Lh (O.getD j dO).2)):=by
 have hl:=oH O
 have key:∀ (q:List Ro) (i:Nat),i<q.length->((q.flatMap nP).drop (i*6+1)).take 5=Lh (q.getD i dO).2:=by
  intro q
  induction q with
  |nil=>intro i h;simp at h
  |cons x q ih=>
   intro i h
   cases i with
   |zero=>rfl
   |succ i=>
    rw[Z0g,show (i+1)*6+1=(i*6+1)+6 by omega,Z27];exact ih i (by simpa using h)
 unfold eO;rw[show (CF O).kind=none from rfl];simp only;rw[Z3y (by show j*6+1+5<=(O.flatMap nP).length;omega)];show some (V.agg (((O.flatMap nP).drop (j*6+1)).take 5))=_;rw[key O j h]
theorem lK (O:List Ro) (nt nl:Nat) (nx nh:Int) (z:Int) (r:Option Ent) (hr:fu z O=r) (hO:O.length<=100000) (h0:0<O.length):FQ 17 [.s (.ptr (some (0,0))),nI z] 7 (uN O nt nl nx nh) (.tup [.agg (Lh (r.getD eZ)),.s (.bool r.isSome)]) 7 (uN O nt nl nx nh):=by
 have hsz:(Tryz.prog.types[88]).size=6:=aK;refine wW Tryz.func17 ?_
 repeat'(first|refine yA ?_|refine y2 ?_ ?_|exact y5|fail)
 refine cy (σ:=Nat) (λj=>[(6,nI j)]) (λ_=>[(0,some (qV O.length nt nl nx nh)),(1,some (CF O)),(7,some {cells:=[.str [],.int .i64 0,.int .i64 0,.int .i64 0,.int .i64 0],ty:=38})]) (λj=>j<=O.length/\fu z (O.drop j)=r) (λj=>O.length-j) 0 rfl (λ_=>rfl) ⟨Z08 _,hr⟩ aP ⟨rfl,rfl,rfl,trivial⟩ ?_;clear hr;rintro j ⟨hj,hI⟩;by_cases h:j<O.length
 ·rw[th h] at hI
  simp only[fu] at hI;have hi:(O.flatMap nP)[j*6+0]? =some (.int .i64 (O.getD j dO).1):=mN h rfl;have hx:=JP h;by_cases ho:(O.getD j dO).1=z
  ·rw[if_pos ho] at hI
   subst hI
   repeat'(first|refine y1 ?_|refine y2 ?_ ?_|refine y4 λh=>?_|refine gG [.val (nI (O.getD j dO).1)] rfl rfl (by rw[hsz,ak,ak,ao,Z0c];exact cD rfl hi) rfl ?_|refine gG [.val (.agg (Lh (O.getD j dO).2))] rfl rfl (by rw[hsz,ak,ak,ao,Z0c];exact hx) rfl ?_|refine y3 ?_|exact y5|fail)
   all_goals exact bK
  ·rw[if_neg ho] at hI
   repeat'(first|refine y1 ?_|refine y2 ?_ ?_|refine y4 λh=>?_|refine gG [.val (nI (O.getD j dO).1)] rfl rfl (by rw[hsz,ak,ak,ao,Z0c];exact cD rfl hi) rfl ?_|refine y3 ?_|exact y5|fail)
   exact dz (j+1) ⟨aa,hI⟩ aa rfl aP ⟨rfl,rfl,rfl,trivial⟩ rfl rfl ac
 ·rw[Z10 aa] at hI
  subst hI
  repeat'(first|refine yA ?_|refine y2 ?_ ?_|refine y4 λh=>?_|exact y5|fail)
  exact bK
def ma (O:List Ro) (z:Int):Bool:=match fu z O with|some x=>decide (x.op=10)||decide (x.op=11)||decide (x.op=12)|none=>false
theorem Fz (O:List Ro) (nt nl:Nat) (nx nh:Int) (z:Int) (hO:O.length<=100000) (h0:0<O.length):FQ 146 [.s (.ptr (some (0,0))),nI z] 7 (uN O nt nl nx nh) (bV (ma O z)) 7 (uN O nt nl nx nh):=by
 have hob:=lK O nt nl nx nh z _ rfl hO h0;unfold ma;generalize fu z O=r at*;refine wW Tryz.func146 ?_
 cases r with
 |none=>
  repeat'(first|refine yA ?_|refine y2 ?_ ?_|refine wX (bD [0,1,2,3,4,5,6] hob ?_)|exact y5|fail)
  all_goals exact bK
 |some x=>
  repeat'(first|refine yA ?_|refine y2 ?_ ?_|refine y4 λh=>?_|refine wX (bD [0,1,2,3,4,5,6] hob ?_)|exact y5|fail)
  all_goals refine⟨.inl rfl,_,[],bB (congrArg bV ?_),fY rfl ⟨rfl,rfl,trivial⟩ rfl rfl rfl rfl⟩
  all_goals simp only[Z22] at*
  all_goals simp[*]
abbrev Rt:=Int×List Nd
def rG (r:Rt):List S:=[.int .i64 r.1,.frz (λk=>ndC (r.2.getD k dN)) 4 r.2.length]
abbrev dT:Rt:=(0,[])
abbrev tR (g:Nat) (T:List Rt):Option Bl:=fq 145 (g+1) 2 (T.flatMap rG)
def jo (z:Int):Nat->List Rt->Int
 |_,[]=> -1
 |k,r::t=>if r.1=z then (k:Int) else jo z (k+1) t
theorem xU {T:List Rt} {j o:Nat} {x:S} (hj:j<T.length) (hx:(rG (T.getD j dT))[o]? =some x):(T.flatMap rG)[j*2+o]? =some x:=cq rG 2 dT (λ_=>rfl) hj hx
theorem G9 {T:List Rt} {j:Nat} (h:j<T.length):T.drop j=T.getD j dT::T.drop (j+1):=by
 rw[Z0k h,Z00,Z01 h];rfl
abbrev rsS (m n nl:Nat) (nx nh:Int):Bl:={cells:=[.sla 1 2 m,.sla 3 4 n,.row 5 6 nl,.int .i64 nx,.int .i64 nh],ty:=93,ro:=true}
abbrev Lc (g:Nat) (T:List Rt):Bl:={cells:=T.flatMap rG,ty:=145,more:=true,ro:=true,sym:=true,flat:=true,gh:=some (g+1,2)}
abbrev rsU (m n nl:Nat) (nx nh:Int) (T:List Rt):Hp:=[(0,some (rsS m n nl nx nh)),(3,some (Lc 3 T))]
theorem zP (m nl:Nat) (nx nh:Int) (t0:Rt) (t:List Rt) (z:Int) (hT:(t0::t).length<=100000):FQ 79 [.s (.ptr (some (0,0))),nI z] 7 (rsU m (t.length+1) nl nx nh (t0::t)) (nI (jo z 0 (t0::t))) 7 (rsU m (t.length+1) nl nx nh (t0::t)):=by
 have hsz:(Tryz.prog.types[145]).size=2:=aK;generalize hR:jo z 0 (t0::t)=R;refine wW Tryz.func79 ?_
 repeat'(first|refine yA ?_|refine y2 ?_ ?_|exact y5|fail)
 refine cy (σ:=Nat) (λj=>[(5,nI j)]) (λ_=>rsU m (t.length+1) nl nx nh (t0::t)) (λj=>j<=(t0::t).length/\jo z j ((t0::t).drop j)=R) (λj=>(t0::t).length-j) 0 rfl (λ_=>rfl) ⟨Z08 _,hR⟩ aP ⟨rfl,rfl,trivial⟩ ?_;rintro j ⟨hj,hI⟩;by_cases h:j<(t0::t).length
 ·rw[G9 h,jo] at hI
  have hi:((t0::t).flatMap rG)[j*2+0]? =some (.int .i64 ((t0::t).getD j dT).1):=xU h rfl;rw[Z04] at h hj hT;generalize (t0::t).getD j dT=u at*;by_cases ho:u.1=z
  ·rw[if_pos ho] at hI
   subst hI
   repeat'(first|refine y1 ?_|refine y2 ?_ ?_|refine y4 λh=>?_|refine gG [.val (nI u.1)] rfl rfl (by rw[hsz,ak,ak,ao,Z0c];exact cD rfl hi) rfl ?_|refine y3 ?_|exact y5|fail)
   exact bK
  ·rw[if_neg ho] at hI
   repeat'(first|refine y1 ?_|refine y2 ?_ ?_|refine y4 λh=>?_|refine gG [.val (nI u.1)] rfl rfl (by rw[hsz,ak,ak,ao,Z0c];exact cD rfl hi) rfl ?_|refine y3 ?_|exact y5|fail)
   exact dz (j+1) ⟨by simp only[Z04];omega,hI⟩ (by simp only[Z04];omega) rfl aP ⟨rfl,rfl,trivial⟩ rfl rfl ac
 ·rw[Z10 aa,jo] at hI
  subst hI;rw[Z04] at h hj hT
  repeat'(first|refine yA ?_|refine y2 ?_ ?_|refine y4 λh=>?_|exact y5|fail)
  exact bK
section
variable {P:Program} {b:Nat} {env:List V} {n:Nat} {L:Hp} {R:Post}
theorem Ex.ghC {c:Code} (i j o kk w m:Nat) {bl blj:Bl} (hl:lk L i=some bl) (hnp:bl.cells.all bZ=true) (hlen:kk*w<=bl.cells.length) (hlj:lk L j=some blj) (hij:Nat.beq i j=false) (ho:blj.cells[o]? =some (.slc (some (i,0)) m (some kk))) (hf:blj.flat=false)
 {L':Hp} (hL:put (put L i (some {bl with more:=true,sym:=true,flat:=true,gh:=some (n,w)})) j (some {blj with cells:=blj.cells.set o (.sla i n m)})=L') (k:Ex P b c env (n+1) L' R):Ex P b c env n L R:=by
 subst hL;intro φ a w0 h1 h2 h3 h4
 have hij:i≠j:=λe=>by rw[e,Z2n] at hij;cases hij
 let φ':Ph:=⟨λx=>if x=n then some (kk,0) else φ x,φ.z⟩
 have hn:φ n=none:=h3 n (Z02 _)
 have hle:φ.le φ':=⟨λx y e=>by show (if x=n then _ else _)=_;rw[if_neg (λe'=>by grind)];exact e,λ_ _ e=>e⟩
 have hn':φ' n=some (kk,0):=ae
 have old:∀ x bx,lk L x=some bx->φ' x=φ x:=λx bx hx=>by
  grind [h2.hr]
 let M:Hp:=put (put L i (some {bl with more:=true,sym:=true,flat:=true,gh:=some (n,w)})) j (some {blj with cells:=blj.cells.set o (.sla i n m)})
 have back:∀ x bx,lk M x=some bx->∃ b0,lk L x=some b0/\bx.ro=b0.ro/\∀ y,φ x=some y->BlAt φ w0 y b0->BlAt φ' w0 y bx:=by
  intro x bx hx;simp only[M,aC] at hx;split at hx
  ·rename_i e;subst e;cases hx
   refine⟨blj,hlj,rfl,λy hy hat=>?_⟩;obtain⟨pre,xs,rest,fr,q1,hp,q2,q3,q4,q5⟩:=hat.mono hle rfl;refine⟨pre,xs,rest,fr,q1,hp,fE q2 (λv hv=>?_),q3,q4,q5⟩;have hs:=gO q2 ho hv
   have e:blj.ph φ'=φ':=by unfold Bl.ph;rw[hf]
   rw[e] at hs;show Sr (blj.ph φ') _ _;rw[e];obtain⟨b1,k1,e1,e2,e3,e4⟩:=hs
   rcases e4 with e4|e4
   ·cases e4
   ·cases e4;exact⟨b1,kk,e1,hn',ae,e3⟩
  ·split at hx
   ·rename_i e;subst e;cases hx
    refine⟨bl,hl,rfl,λy hy hat=>?_⟩;obtain⟨pre,xs,rest,fr,q1,hp,q2,q3,q4,q5⟩:=(BlAt.flat hnp hat).mono hle rfl;refine⟨pre,xs,rest,fr,q1,hp,q2,λe=>(by cases e),q4,λg z e=>?_,q5.2⟩
    grind [q2.len]
   ·exact⟨bx,hx,rfl,λy hy hat=>hat.mono hle rfl⟩
 have wb:∀ x,Wr φ' M x->Wr φ L x:=by
  rintro x ⟨i1,b1,c1,e1,e2,e3,e4⟩;obtain⟨b0,f1,f2,_⟩:=back i1 b1 e1;exact⟨i1,b0,c1,f1,ae,e3,ae⟩
 have good':Ab.Good φ' M w0:=by
  refine⟨λx bx hx=>?_,λx y bx by' c c' hx hy hc hc' e=>?_,λx l hx=>⟨(h2.fz x l hx).1,λhw=>(h2.fz x l hx).2 (wb x hw)⟩,h2.gz⟩
  ·grind [h2.hr]
  ·obtain⟨b0,f1,f2,_⟩:=back x bx hx
   obtain⟨b1,g1,g2,_⟩:=back y by' hy
   rw[f2,g2];exact h2.inj x y b0 b1 c c' f1 g1 ae ae e
 refine wp_mono (k φ' a w0 ⟨h1.1,h1.2.mono λ_ _=>Vr.mono hle⟩ good' (λx hx=>?_) (Nat.le_succ_of_le h4)) ?_
 ·grind
 rintro x a' w' ⟨φ2,e,m2,M2,hR,k1,k2,k3,k4,k5,k6⟩;refine⟨φ2,e,m2,M2,hR,k1,k2,k3,k4,⟨k5.os,k5.tape,k5.output,k5.size,λd hd hnw=>k5.keep d hd λhw=>hnw (wb d hw),λj1 bl1 d hj hd hlt'=>?_,k5.zle,λx l hx=>(k5.zfr x l hx).imp id (Or.imp id (wb x))⟩,λx hx=>?_⟩
 ·obtain⟨i1,b1,c1,e1,e2,e3,e4,e5⟩:=k5.fresh j1 bl1 d hj hd hlt'
  obtain⟨b0,f1,f2,_⟩:=back i1 b1 e1;exact⟨i1,b0,c1,f1,by rw[<-old _ _ f1];exact e2,e3,λh=>e4 (f2.trans h),e5.imp id λh=>f2▸h⟩
 ·rw[k6 x hx]
  show (if x=n then _ else _)=_;rw[if_neg aa]
theorem Ex.ghR (i j o kk w m:Nat) {bl blj:Bl} (hl:lk L i=some bl) (hnp:bl.cells.all bZ=true) (hlen:kk*w<=bl.cells.length) (hlj:lk L j=some blj) (hij:Nat.beq i j=false) (ho:blj.cells[o]? =some (.slc (some (i,0)) m (some kk))) (hf:blj.flat=false)
 {L':Hp} (hL:put (put L i (some {bl with more:=true,sym:=true,flat:=true,gh:=some (n,w)})) j (some {blj with cells:=blj.cells.set o (.sla i n m)})=L') (k:Ex P b .ret env (n+1) L' R):Ex P b .ret env n L R:=Ex.ghC i j o kk w m hl hnp hlen hlj hij ho hf hL k
end
abbrev O0:List Ro:=[(0,cV [92] 10 (-1) 0 0),(1,cV [92,95,83,66] 10 0 0 0),(2,cV [92,95,71,80,69] 10 0 0 0)]
theorem L1:FQ 11 [] 0 [] (.s (.ptr (some (0,0)))) 7 (rsV O0 0 0 3 1):=by
 refine wW Tryz.func11 ?_
 repeat'(first|refine Ex.ghR 0 1 0 3 6 3 rfl rfl ac rfl rfl rfl rfl rfl (Ex.upN (n':=7) ac (Ex.celP 1 1 (s':=.row 3 4 0) rfl rfl SLe.nilrow rfl (Ex.celP 1 2 (s':=.row 5 6 0) rfl rfl SLe.nilrow rfl ?_)))|refine y1 ?_|refine y2 ?_ ?_|refine y3 ?_|exact y5|fail)
 exact⟨.inl rfl,_,[1,0,2,3,4,5,6],ah _,fY rfl ⟨rfl,rfl,trivial⟩ rfl rfl rfl rfl⟩
section
variable {P:Program} {b:Nat} {ops:Array Oper} {d:Bool} {acc:List Row} {os:List Oper} {env:List V} {n:Nat} {L:Hp} {R:Post}
theorem Ex.celT (j o:Nat) {s s':S} {bl:Bl} (hl:lk L j=some bl) (ho:bl.cells[o]? =some s) (hle:SLe s s') {L':Hp} (hL:put L j (some {bl with cells:=bl.cells.set o s'})=L') (k:Ex P b .ret env n L' R):Ex P b .ret env n L R:=Ex.celP j o hl ho hle hL k
theorem Ap {dst:Option Tmp} {x0:Value} {tx:Tmp} {t tx' e:TypeId} {t':TypeId} {pos:String} {af:Array Edge} {gd:Option (Nat×Bool)} {dx:TypeDesc} {inf:TypeInfo} {ad:Option Addr} {k':Nat} {a:Act} {w0:World} (ht:P.underlying t=some (.slice e)) (htx:P.underlying tx'=some dx) (hdx:iL dx=true) (hi:P.info? e=some inf) (e1:a.eval (.const x0)=.slice none 0 0) (e2:a.eval (.tmp tx)=.slice ad 0 k'):
 (execOp a.eval ⟨dst,.call ⟨.builtin .append,#[.const x0,.tmp tx],#[t,tx']⟩,t',pos,af,gd⟩).run P w0=.ok (.value (.slice none 0 0)) w0:=by
 have hszr:(sizeOf e).run P w0=.ok inf.size w0:=by simp[sizeOf,typeInfo,hi]
 have hnew:(Builtin.firstCells inf.size 0 (.slice ad 0 k')).run P w0=.ok #[] w0:=by
  cases ad<;>simp[Builtin.firstCells,loadCells,loadCellsFrom]
 have hrun:(Builtin.append_ #[t,tx'] t' #[.slice none 0 0,.slice ad 0 k']).run P w0=.ok (.slice none 0 0) w0:=by
  unfold Builtin.append_;simp only[Z1a,Z11,Z23,Z09,Ab.run_underlying ht,Ab.run_underlying htx,Z05,hszr,Z0f];have hlen:(Builtin.lenOf (.slice ad 0 k')).run P w0=.ok 0 w0:=rfl
  cases dx<;>first|(cases hdx;done)|(simp only[Z0l,if_false,Z2f,if_true,hlen,Z09,Z05,Z0f,Z0p,Z02,hnew])
 simp only[execOp,resolve,Z09,Z0f,Z05,invoke,builtin,Z3u,Z13,Z3d,e1,e2,hrun]
theorem RegX.cpR {dst:Option Tmp} {x0:Value} {tx:Tmp} {t tx' e:TypeId} {t':TypeId} {pos:String} {af:Array Edge} {gd:Option (Nat×Bool)} {dx:TypeDesc} {inf:TypeInfo} {zs:List S} {i g m w mm:Nat} {c:Option Nat} {cs:List S}
 (hx:cI x0=.s (.slc none mm c)) (hd:env.getD tx .undef=.s (.row i g m)) (hl:lk L i=fq e g w cs) (hlen:cs.length=m*w)
 (ht:P.underlying t=some (.slice e)) (htx:P.underlying tx'=some dx) (hdx:iL dx=true) (hi:P.info? e=some inf) (hz:dW P e=some zs) (hsz:inf.size=zs.length) (hw:inf.size=w) (hw0:0<w)
 (hnp:cs.all bZ=true) (hbig:m*inf.bytes<=140737488355328) (hmax:m<=140737488355328)
 (hwant:bf ops env ⟨dst,.call ⟨.builtin .append,#[.const x0,.tmp tx],#[t,tx']⟩,t',pos,af,gd⟩=some true)
 (kk:RegX P ops d (aE d ⟨dst,.call ⟨.builtin .append,#[.const x0,.tmp tx],#[t,tx']⟩,t',pos,af,gd⟩ [i] [(n,fq e (n+1) w cs)] acc) os (bg env dst (.s (.row n (n+1) m))) (n+2) (aA L [(n,fq e (n+1) w cs)]) R):
 RegX P ops d acc (⟨dst,.call ⟨.builtin .append,#[.const x0,.tmp tx],#[t,tx']⟩,t',pos,af,gd⟩::os) env n L R:=by
 refine RegX.op (foot:=[i]) (wr:=[(n,fq e (n+1) w cs)]) hwant ?_ aa kk
 have tdlt:tx<env.length:=by
  grind
 subst hw
 cases cs with
 |nil=>
  obtain rfl:m=0:=by
   rcases Nat.mul_eq_zero.1 hlen.symm with h|h
   ·exact h
   ·omega
  have hl:lk L i=none:=hl;intro φ a w0 Q hop hg hf;have g1:=hop (.const x0) (by simp[Op.operands,Call.operands]);have g2:=hop (.tmp tx) (by simp[Op.operands,Call.operands])
  replace g1:Vr φ (cI x0) (a.eval (.const x0)):=g1
  rw[hx] at g1
  replace g2:Vr φ (env.getD tx .undef) (a.eval (.tmp tx)):=g2
  rw[hd] at g2;obtain⟨_,_,e1⟩:=g1
  have e2:a.eval (.tmp tx)=.slice none 0 0:=by
   rcases g2 with ⟨_,h⟩|⟨h,_⟩
   ·exact h
   ·omega
  unfold Oper.wp;rw[Ap ht htx hdx hi e1 e2,Z3q]
  have hs:xy (aA (res [i] L) [(n,fq e (n+1) inf.size [])]) (res [i] L):=λj bl hj=>by
   simp only[aA,aC] at hj;split at hj
   ·cases hj
   ·exact hj
  have st:=(Stp.refl φ (res [i] L) w0)
  exact⟨φ,.slice none 0 0,rfl,.inl ⟨rfl,rfl⟩,hg.sub hs,⟨st.os,st.tape,st.output,st.size,st.keep,λj bl b hj=>st.fresh j bl b (hs j bl hj),st.zle,st.zfr⟩,λ_ _=>rfl⟩
 |cons c tl=>
  have hm:0<m:=by
   grind
  have hl:lk L i=some {cells:=c::tl,ty:=e,more:=true,sym:=true,flat:=true,gh:=some (g,inf.size)}:=hl
  have e1:∀ v,(env.set tx v).getD tx .undef=v:=λv=>by grind
  have hopr:∀ x∈(⟨dst,.call ⟨.builtin .append,#[.const x0,.tmp tx],#[t,tx']⟩,t',pos,af,gd⟩:Oper).op.operands,VLe (ev env x) (ev (env.set tx (.s (.sla i g m))) x):=by
   intro x hx;simp only[Op.operands,Call.operands] at hx;have hx:x=.const x0\/x=.tmp tx:=ae
   rcases hx with rfl|rfl
   ·exact ah _
   ·show VLe (env.getD tx .undef) ((env.set tx _).getD tx .undef)
    rw[e1,hd];exact VLe.s (SLe.rowsla hm)
  have hfit:cf {cells:=[],ty:=e,flat:=false} (c::tl)=true:=by
   unfold cf
   refine Z0i.2 λx hx=>?_
   have:=Z0i.1 hnp x hx
   cases x<;>first|rfl|cases this
  have core:=ez (P:=P) (env:=env.set tx (.s (.sla i g m))) (n:=n) (L:=L) (o:=⟨dst,.call ⟨.builtin .append,#[.const x0,.tmp tx],#[t,tx']⟩,t',pos,af,gd⟩) (d:=.const x0) (x:=.tmp tx) (fl:=false) (bi:=none) (len:=0) (bl:={cells:=[],ty:=e,flat:=false}) (C:=True) (m:=m) (m0:=m) (xs:=c::tl) (cs:=c::tl) (sy:=true) (r:=m) (foot:=[i]) (D:=0+m*inf.size<=(c::tl).length/\(none:Option MapK)=none)
   rfl rfl rfl rfl rfl ht htx hdx hi hz hsz (by show fG P L e inf.size false (cI x0)=_;rw[hx];simp only[fG,hz,Z2c]) (by
    show gc L inf.size m (iF ((env.set tx _).getD tx .undef))=_;rw[e1];simp only[iF,wkS,gc,hl,Z3f]
    rw[<-hlen,Z1v]) trivial ⟨by rw[hlen];omega,rfl⟩ rfl aa aq hfit (λ_=>hm) hbig hmax
  refine OpL.conv hopr (λj=>rfl) (VLe.s (SLe.slarow hm)) ?_ core;intro j bl' hj;have hj:lk (aA (res [i] L) [(n,some {cells:=c::tl,ty:=e,more:=true,sym:=true,flat:=true,gh:=some (n+1,inf.size)})]) j=some bl':=hj;show ∃ bl,lk (aA (res [i] L) [(n,some {cells:=c::tl,ty:=e,more:=true,sym:=true,gh:=some (n+1,inf.size)})]) j=some bl/\_;simp only[aA,aC] at hj |-;split at hj
  ·cases hj
   rw[if_pos ‹_›];exact⟨_,rfl,rfl,λφ w b hb=>BlAt.flat (bl:={cells:=c::tl,ty:=e,more:=true,sym:=true,gh:=some (n+1,inf.size)}) hnp hb⟩
  all_goals grind
end
structure Rk where
 t:Int
 nd:Int
 a:Int
 b:Int
def kH (x:Rk):List S:=[.int .i64 x.t,.int .i64 x.nd,.int .i64 x.a,.int .i64 x.b]
abbrev kR (g:Nat) (K:List Rk):Option Bl:=fq 143 (g+1) 4 (K.flatMap kH)
abbrev oG (g:Nat) (O:List Ro):Bl:={cells:=O.flatMap nP,ty:=88,more:=true,sym:=true,flat:=true,gh:=some (g+1,6)}
abbrev pC (i j k m nt nl:Nat) (nx nh:Int):Bl:={cells:=[.sla i (i+1) m,.row j (j+1) nt,.row k (k+1) nl,.int .i64 nx,.int .i64 nh],ty:=93}
abbrev Di (O:List Ro) (T:List Rt) (K:List Rk) (nx nh:Int):Hp:=[(0,some (Dh O.length T.length K.length nx nh)),(1,some (oR O)),(3,tR 3 T),(5,kR 5 K)]
abbrev rsC (O:List Ro) (T:List Rt) (K:List Rk) (nx nh:Int):Hp:=[(0,some (Dh O.length T.length K.length nx nh)),(1,some (oR O)),(3,tR 3 T),(5,kR 5 K),(7,some (pC 8 10 12 O.length T.length K.length nx nh)),(8,some (oG 8 O)),(10,tR 10 T),(12,kR 12 K)]
theorem tC {α:Type} (g:α->List S) (h:∀ a,(g a).all bZ=true):∀ l:List α,(l.flatMap g).all bZ=true
 |[]=>rfl
 |a::l=>by grind
theorem sY:∀ l:List Rt,(l.flatMap rG).length=l.length*2
 |[]=>rfl
 |r::t=>by rw[Z0g,Z03,sY t,Z04];show 2+_=_;omega
theorem ta:∀ l:List Rk,(l.flatMap kH).length=l.length*4
 |[]=>rfl
 |r::t=>by rw[Z0g,Z03,ta t,Z04];show 4+_=_;omega
theorem H9 (O:List Ro) (T:List Rt) (K:List Rk) (nx nh:Int) (hO:O.length<=100000) (hT:T.length<=100000) (hK:K.length<=100000) (h0:0<O.length):FQ 83 [.s (.ptr (some (0,0)))] 7 (Di O T K nx nh) (.s (.ptr (some (7,0)))) 14 (rsC O T K nx nh):=by
 have hl:=oH O;have hl2:=sY T;have hl3:=ta K;have hb1:(Tryz.prog.types[88]).bytes=56:=aK;have hb2:(Tryz.prog.types[145]).bytes=32:=aK;have hb3:(Tryz.prog.types[143]).bytes=32:=aK;have hz1:(Tryz.prog.types[88]).size=6:=aK;have hz2:(Tryz.prog.types[145]).size=2:=aK;have hz3:(Tryz.prog.types[143]).size=4:=aK;have n1:(O.flatMap nP).all bZ=true:=tC _ (λ_=>rfl) O;have n2:(T.flatMap rG).all bZ=true:=tC _ (λ_=>rfl) T;have n3:(K.flatMap kH).all bZ=true:=tC _ (λ_=>rfl) K
 have hO1:some (oR O)=fq 88 2 6 (O.flatMap nP):=by
  cases O with
  |nil=>simp at h0
  |cons x O=>rfl
 have hO2:some (oG 8 O)=fq 88 9 6 (O.flatMap nP):=by
  cases O with
  |nil=>simp at h0
  |cons x O=>rfl
 refine wW Tryz.func83 ?_;rw[show Di O T K nx nh=[(0,some (Dh O.length T.length K.length nx nh)),(1,fq 88 2 6 (O.flatMap nP)),(3,tR 3 T),(5,kR 5 K)] by grind,show rsC O T K nx nh=[(0,some (Dh O.length T.length K.length nx nh)),(1,fq 88 2 6 (O.flatMap nP)),(3,tR 3 T),(5,kR 5 K),(7,some (pC 8 10 12 O.length T.length K.length nx nh)),(8,fq 88 9 6 (O.flatMap nP)),(10,tR 10 T),(12,kR 12 K)] by grind];refine Ex.celP 0 0 (s':=.row 1 2 O.length) rfl rfl (SLe.slarow h0) rfl ?_
 repeat'(first|refine Ex.celT 7 0 (s':=.sla 8 9 O.length) rfl rfl (SLe.rowsla h0) rfl (Ex.celT 0 0 (s':=.sla 1 2 O.length) rfl rfl (SLe.rowsla h0) rfl ?_)|refine y1 ?_|refine y2 ?_ ?_|refine RegX.cpR rfl rfl rfl hl rfl rfl rfl rfl rfl hz1 hz1 ac n1 ?_ ?_ rfl ?_|refine RegX.cpR rfl rfl rfl hl2 rfl rfl rfl rfl rfl hz2 hz2 ac n2 ?_ ?_ rfl ?_|refine RegX.cpR rfl rfl rfl hl3 rfl rfl rfl rfl rfl hz3 hz3 ac n3 ?_ ?_ rfl ?_|refine y3 ?_|exact y5|fail)
 ·grind
 ·grind
 ·grind
 ·refine⟨.inl rfl,.s (.ptr (some (7,0))),[7,8,9,10,11,12,13],ah _,fY rfl ⟨rfl,bh rfl (bh rfl (bh rfl ⟨rfl,bh rfl (bh rfl (bh rfl trivial))⟩))⟩ rfl ?_ rfl rfl⟩
  generalize O.flatMap nP=c1;unfold tR kR;generalize T.flatMap rG=c2;generalize K.flatMap kH=c3
  cases c1<;>cases c2<;>cases c3<;>rfl
