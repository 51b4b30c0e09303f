import Derived.Test.YtegjgpldfgjoiaaGreatDoorCnD42
import Derived.ProofKit
import Derived.OpenShut
import Derived.ShutString
import Derived.ChangeOld
import Derived.Lib.SmallJoins
import Derived.Handed
import Derived.Lay
import Derived.LaidOnce
import Derived.Stop.Joined
import Derived.Deep.Slices
import Derived.Test.YtegjgpldfgjoiaaGreatDoorTie
set_option linter.all false
set_option maxHeartbeats 40000000
set_option maxRecDepth 100000
namespace Go.Proofs.YtegjgpldfgjoiaaGreatDoor
section
open Go Ab
inductive DocS (ts:List Tk):Nat->Nat->List Nd->List Nd->Prop
 |nil {out:List Nd}:DocS ts 0 ts.length out out
 |cons {n i i1:Nat} {out out1 out2:List Nd} (hi:i<ts.length) (hn:iP ts 68 i out i1 out1) (r:DocS ts n i1 out1 out2):DocS ts (n+1) i out out2
theorem xu {a:Nd} {j:Nat} {x:S} (h:(ndC a)[j]? =some x):bL x=true:=by
 rcases j with _|_|_|_|j
 ·cases h;rfl
 ·cases h;rfl
 ·cases h;rfl
 ·cases h;rfl
 ·simp[ndC] at h
theorem C4 (s:By) (ts:List Tk) (n:Nat) (p:List Nd) (hT:TokS s 0 ts) (hl0:s.length<=65536) (hn:∀ j,s.getD j 0≠47) (hts:ts.length<=100000) (hD:DocS ts n 0 [] p) (hp:p≠[]) (hw:tX p) (hv:dX p=true):FQ 44 [sV s] 0 [] (.tup [.s (.frz (λk=>ndC (p.getD k dN)) 4 p.length),.s (.int .i64 0),.s (.int .i64 0)]) 0 []:=by
 have hsc:=Fw s ts hT hl0 hn hts;have hva:=gt p hw;rw[hv] at hva;refine wW Tryz.func44 ?_
 repeat'(first|refine yA ?_|refine y2 ?_ ?_|refine y4 λh=>?_|refine an hsc ?_|exact y5|fail)
 refine Ex.celP 0 2 (s':=.row 1 2 0) rfl rfl SLe.nilrow rfl (Ex.upN (n':=3) ac ?_);refine cD (σ:=Nat×Nat×List Nd) (λs=>[]) (λs=>[(0,some (pX 1 2 ts s.2.1 s.2.2.length)),(1,nB 1 s.2.2)]) (λs=>DocS ts s.1 s.2.1 s.2.2 p) (λs=>s.1) (n,0,[]) rfl (λ_=>rfl) hD trivial ⟨rfl,iN rfl trivial⟩ ?_;clear hD hT;rintro⟨n,i,o⟩ d;simp only at d |-
 cases d with
 |nil=>
  obtain⟨x0,o,rfl⟩:∃ x0 o,p=x0::o:=by
   cases p with
   |nil=>exact absurd rfl hp
   |cons x0 o=>exact⟨x0,o,rfl⟩
  refine Ex.celP 0 2 (s':=.sla 1 2 (o.length+1)) rfl rfl (SLe.rowsla (Z1n _)) rfl ?_;refine Ex.fzC 0 2 (λk=>ndC ((x0::o).getD k dN)) 4 (i:=1) (N:=(x0::o).length) rfl ac rfl rfl rfl rfl rfl (λ_ _=>rfl) (λk j x hk hx=>⟨dQ ndC 4 dN (λ_=>rfl) (l:=x0::o) hk hx,xu hx⟩) rfl ?_
  repeat'(first|refine yA ?_|refine y2 ?_ ?_|refine y4 λh=>?_|refine an hva ?_|exact y5|fail)
  all_goals exact g_ (.inl rfl) rfl rfl rfl
 | @cons n _ i1 _ out1 _ hi hn r=>
   repeat'(first|refine yA ?_|refine y2 ?_ ?_|refine y4 λh=>?_|(refine wX ?_;refine ja [0,1,2] hn ?_ (wr:=[(0,some (pX 3 4 ts i1 out1.length)),(1,none),(3,nB 3 out1)]) (k2:=fH))|exact y5|fail)
   refine fq (n,i1,out1) r (by show n<n+1;omega) [0,3,4] rfl ?_ ?_ ?_
   ·repeat'(first|exact ah _|exact cT _|exact Z0o|refine⟨?_,?_⟩)
   ·exact⟨rfl,bN rfl trivial⟩
   ·unfold nB
    generalize List.flatMap _ _=cg
    cases cg<;>rfl
section
variable {i:Nat} {s:By} {ts:List Tk}
theorem HN:FQ 204 [sV [49]] 0 [] (.tup [.s (.int .u64 1),.s (.bool true)]) 0 []:=by
 have hd:=kw 49;rw[show jy 49=true from rfl] at hd;refine wW Tryz.func204 ?_
 repeat'(first|refine y1 ?_|refine y2 ?_ ?_|refine y4 λh=>?_|refine bt hd ?_|refine Ex.unroll 2 ?_|refine y3 ?_|exact y5|fail)
 all_goals exact g_ (.inl rfl) rfl rfl rfl
def awS:By:=[68,101,118,105,99,101,32,40,88,41,32,123,78,97,109,101,32,40,95,65,68,82,44,32,49,41,125]
abbrev Ig (s:By) (i:Nat) (t:Tk) (k:Nat):Prop:=FQ 136 [sV s,nI i] 0 [] (GX t (k:Nat)) 0 []
theorem EW (w:By) (k:Nat) (h0:iA s i=k) (h1:(s.take k).drop i=w) (hb:(decide (i<s.length/\s.length<1000000000/\k<=i+32/\k<=s.length)&&(fa ((s.getD i 0).toNat:Int)&&oJ w))=true):Ig s i ⟨2,0,w,(i:Nat)⟩ k:=by
 subst h0;subst h1;simp only[Z07,decide_eq_true_eq] at hb;obtain⟨⟨a,b,c,d⟩,e,f⟩:=hb;exact Dr s i a b e f c d
theorem EV (w:By) (k:Nat) (h0:iA s i=k) (h1:(s.take k).drop i=w) (hb:(decide (i<s.length/\s.length<1000000000/\k<s.length/\s.getD k 0≠46)&&(fa ((s.getD i 0).toNat:Int)&&(!oJ w&&aN w)))=true):Ig s i ⟨1,0,w,(i:Nat)⟩ k:=by
 subst h0;subst h1;simp only[Z07,decide_eq_true_eq,Z0v] at hb;obtain⟨⟨a,b,c,d⟩,e,f,g⟩:=hb;exact Dq s i a b e f g c d
theorem HL (w:By) (v:Int) (k:Nat) (h0:iA s i=k) (h1:(s.take k).drop i=w) (hb:(decide (i<s.length/\s.length<1000000000/\k<=s.length)&&(!fa ((s.getD i 0).toNat:Int)&&jy ((s.getD i 0).toNat:Int)))=true) (hv:FQ 204 [sV w] 0 [] (.tup [.s (.int .u64 v),.s (.bool true)]) 0 []):Ig s i ⟨3,v,[],(i:Nat)⟩ k:=by
 subst h0;subst h1;simp only[Z07,decide_eq_true_eq,Z0v] at hb;obtain⟨⟨a,b,c⟩,e,f⟩:=hb;exact Ds s i v a b e f c hv
theorem nr (c:Int) (z:Int) (hb:decide (i<s.length/\s.length<1000000000/\((s.getD i 0).toNat:Int)=c/\(c=40\/c=41\/c=123\/c=125\/c=44)/\um c=z)=true):Ig s i ⟨z,0,[],(i:Nat)⟩ (i+1):=by
 obtain⟨a,b,c,d,e⟩:=of_decide_eq_true hb;subst e;exact Dp s i _ a b c d
abbrev awTk:List Tk:=[⟨2,0,[68,101,118,105,99,101],(0:Nat)⟩,⟨5,0,[],(7:Nat)⟩,⟨1,0,[88],(8:Nat)⟩,⟨6,0,[],(9:Nat)⟩,⟨7,0,[],(11:Nat)⟩,⟨2,0,[78,97,109,101],(12:Nat)⟩,⟨5,0,[],(17:Nat)⟩,⟨1,0,[95,65,68,82],(18:Nat)⟩,⟨9,0,[],(22:Nat)⟩,⟨3,1,[],(24:Nat)⟩,⟨6,0,[],(25:Nat)⟩,⟨8,0,[],(26:Nat)⟩]
theorem TokS.go (j:Nat) {k:Nat} {t:Tk} (hb:decide (i<=s.length/\Hj s i=j/\j<s.length)=true) (hit:Ig s j t k) (r:TokS s k ts):TokS s i (t::ts):=by
 obtain⟨a,b,c⟩:=of_decide_eq_true hb;exact TokS.cons a b c hit r
theorem GG:TokS awS 0 awTk:=
 .go 0 rfl (EW _ 6 rfl rfl rfl)<| .go 7 rfl (nr 40 5 rfl)<| .go 8 rfl (EV _ 9 rfl rfl rfl)<| .go 9 rfl (nr 41 6 rfl)<| .go 11 rfl (nr 123 7 rfl)<| .go 12 rfl (EW _ 16 rfl rfl rfl)<| .go 17 rfl (nr 40 5 rfl)<| .go 18 rfl (EV _ 22 rfl rfl rfl)<| .go 22 rfl (nr 44 9 rfl)<| .go 24 rfl (HL [49] 1 25 rfl rfl rfl HN)<| .go 25 rfl (nr 41 6 rfl)<| .go 26 rfl (nr 125 8 rfl)<| .nil ac rfl
def awP:List Nd:=[⟨11,0,[],2⟩,⟨3,0,[88],0⟩,⟨4,0,[],1⟩,⟨13,0,[],2⟩,⟨3,0,[95,65,68,82],0⟩,⟨1,1,[],0⟩]
theorem ET {m:Nat} (w:By) (op:Int) (hts:ts.length<=100000) (hi:i<ts.length) (hk:(ts.getD i lW).kind=2) (hw:(ts.getD i lW).str=w) (hb:(decide (w.length<=1000/\ ¬(w.length=6/\w.take 5=[76,111,99,97,108]))&&decide (¬(w.length=4/\w.take 3=[65,114,103])))=true) (ho:(pI w rowsL).1.1=op):pH ts i m ⟨op,0,[],0⟩:=by
 subst hw;simp only[Z07,decide_eq_true_eq] at hb;exact Dg ts i m hts hi hk hb.1.1 hb.1.2 hb.2 op ho
theorem EQ {out:List Nd} (w:By) (k:Int) (hts:ts.length<=100000) (hi:i<ts.length) (ho:out.length<=100000) (hkd:(ts.getD i lW).kind=1) (hw:(ts.getD i lW).str=w) (hk:k≠83/\k≠101) (hp:bn k 3=true) (hs:k=115->aN w=true) (hl:w.length<=1000) (hpp:(ak w).2=true):iP ts k i out (i+1) (out++[⟨3,0,w,0⟩]):=by
 subst hw;exact o7 ts k i out _ hts hi ho (Df ts i out.length hts hi hkd hl hpp) (.inr rfl) hk hp hs hl
theorem GI:DocS awTk 1 0 [] awP:=by
 have h1:iP awTk 100 9 [⟨11,0,[],2⟩,⟨3,0,[88],0⟩,⟨4,0,[],1⟩,⟨13,0,[],2⟩,⟨3,0,[95,65,68,82],0⟩] 10 awP:=
  o7 awTk 100 9 _ ⟨1,1,[],0⟩ ac ac ac (Dh awTk 9 5 ac ac rfl) (.inl rfl) ac rfl ac ac
 have h2:iP awTk 115 7 [⟨11,0,[],2⟩,⟨3,0,[88],0⟩,⟨4,0,[],1⟩,⟨13,0,[],2⟩] 8 [⟨11,0,[],2⟩,⟨3,0,[88],0⟩,⟨4,0,[],1⟩,⟨13,0,[],2⟩,⟨3,0,[95,65,68,82],0⟩]:=
  EQ [95,65,68,82] 115 ac ac ac rfl rfl ac rfl (λ_=>rfl) ac rfl
 have h3:iP awTk 68 5 [⟨11,0,[],2⟩,⟨3,0,[88],0⟩,⟨4,0,[],1⟩] 11 awP:=by
  refine sh awTk 68 5 11 _ awP 13 ac ac ac (ET [78,97,109,101] 13 ac ac rfl rfl rfl rfl) (.inr rfl) ac rfl ?_;exact nX awTk ac [115,100] [] ac 3 6 10 11 _ awP awP ac ac rfl ac (.cons rfl (λh=>by cases h) (λ_=>rfl) h2 (.cons rfl (λ_=>⟨rfl,rfl,ac⟩) (λh=>by cases h) h1 .nil)) rfl ac .nil
 have h4:vx awTk 68 4 [⟨11,0,[],2⟩,⟨3,0,[88],0⟩] 12 awP:=
  D5 awTk ac 68 ac 1 4 11 _ awP ac ac rfl ac (.cons (c:=0) ac h3 ac ac rfl .nil) rfl ac
 have h5:iP awTk 115 2 [⟨11,0,[],2⟩] 3 [⟨11,0,[],2⟩,⟨3,0,[88],0⟩]:=
  EQ [88] 115 ac ac ac rfl rfl ac rfl (λ_=>rfl) ac rfl
 have h6:iP awTk 68 0 [] 12 awP:=by
  refine sh awTk 68 0 12 [] awP 11 ac ac ac (ET [68,101,118,105,99,101] 11 ac ac rfl rfl rfl rfl) (.inl rfl) ac rfl ?_;exact nX awTk ac [115] [68] ac 0 1 3 12 _ _ awP ac ac rfl ac (.cons rfl (λh=>by cases h) (λ_=>rfl) h5 .nil) rfl ac (.cons rfl h4 .nil)
 exact .cons ac h6 .nil
theorem C5:FQ 44 [sV [68,101,118,105,99,101,32,40,88,41,32,123,78,97,109,101,32,40,95,65,68,82,44,32,49,41,125]] 0 [] (.tup [.s (.frz (λk=>ndC (awP.getD k dN)) 4 6),.s (.int .i64 0),.s (.int .i64 0)]) 0 []:=by
 refine C4 awS awTk 1 awP GG ac ?_ ac GI ac ?_ rfl
 ·intro j
  by_cases h:j<27
  ·revert j;decide
  ·rw[Z00,Z0b (by show 27<=j;omega)];decide
 ·intro x hx
  simp only[awP,Z0h,Z3t,or_false] at hx
  rcases hx with rfl|rfl|rfl|rfl|rfl|rfl<;>decide
end
def Hy (x:Ent):List S:=[.str x.path,.int .i64 x.op,.int .i64 x.par,.int .i64 x.tab,.int .i64 x.node]
def HT (E:List Ent) (z:Int):Option Ent:=if z<0 then none else E[z.toNat]?
theorem EK (E:List Ent) (T:List Tb) (z:Int) (r:Option Ent) (hr:HT E z=r):FQ 27 [.s (.ptr (some (0,0))),nI z] 4 (tT E T) (.tup [.agg (Hy (r.getD eZ)),.s (.bool r.isSome)]) 4 (tT E T):=by
 refine wW Tryz.func27 ?_
 repeat'(first|refine y1 ?_|refine y2 ?_ ?_|refine RegX.oLkT r rfl rfl rfl rfl rfl rfl hr rfl ?_|refine y3 ?_|exact y5|fail)
 exact bD
theorem An (E:List Ent) (T:List Tb) (s nm:By) (hs:s.length<9223372036854775807) (hn:nm.length<9223372036854775807):
 FQ 20 [.s (.ptr (some (0,0))),sV s,sV nm] 4 (tT E T) (.tup [.s (.int .i64 (((fX E s nm).getD 0:Nat):Int)),.s (.bool (fX E s nm).isSome)]) 4 (tT E T):=by
 have h1:=e9 s hs;have h2:=e9 nm hn;have hv:= @jY s;unfold fX;generalize ak s=r1 at h1 hv |-;generalize ak nm=r2 at h2 |-;obtain⟨q1,ok1⟩:=r1;obtain⟨q2,ok2⟩:=r2;refine wW Tryz.func20 ?_;cases ok1
 ·
  repeat'(first|refine yA ?_|refine y2 ?_ ?_|refine an h1 ?_|exact y5|fail)
  exact bD
 cases ok2
 ·
  repeat'(first|refine yA ?_|refine y2 ?_ ?_|refine an h1 ?_|refine an h2 ?_|exact y5|fail)
  exact bD
 simp only[and_self,if_true];have hcd:=ve q1 q2;have hroot:= @jA q1 q2;have hcl:=lE q1 q2;obtain⟨hu0,_,hseg,_,_,_⟩:=aG (hv rfl);simp only at hseg hu0;generalize aU q1 q2=cs at*
 repeat'(first|refine yA ?_|refine y2 ?_ ?_|refine an h1 ?_|refine an h2 ?_|refine an hcd ?_|exact y5|fail)
 refine cD (σ:=Nat) (λj=>[(33,nI j)]) (λj=>tT E T) (λj=>j<=cs.length/\yC E (cs.drop j)=yC E cs) (λj=>cs.length-j) 0 rfl (λ_=>rfl) ⟨Z08 _,rfl⟩ bc ⟨rfl,rfl,rfl,rfl,trivial⟩ ?_;rintro j ⟨j1,j2⟩;by_cases hj:j<cs.length
 ·rw[Z0k hj] at j2
  have hg:cs.getD j z0=cs[j]:=by simp[Z00,hj]
  have hrt:(cs.getD j z0).root=true:=by rw[hg];exact hroot _ (Z0s hj)
  have hf:=ny (cs.getD j z0) hrt;rw[<-hg,yC] at j2
  cases hl:je 0 E (aH (cs.getD j z0)) with
  |none=>
   rw[hl] at j2
   repeat'(first|refine y1 ?_|refine y2 ?_ ?_|refine y4 λh=>?_|refine an hf ?_|refine RegX.pLk none rfl rfl rfl rfl rfl rfl hl rfl ?_|refine y3 ?_|exact y5|fail)
   exact dT (j+1) ⟨hj,j2⟩ aa rfl bc ⟨rfl,rfl,rfl,rfl,trivial⟩ rfl rfl ac
  |some k=>
   rw[hl] at j2;simp only at j2
   repeat'(first|refine y1 ?_|refine y2 ?_ ?_|refine y4 λh=>?_|refine an hf ?_|refine RegX.pLk (some k) rfl rfl rfl rfl rfl rfl hl rfl ?_|refine y3 ?_|exact y5|fail)
   rw[<-j2];exact bD
 ·have hd:cs.drop j=[]:=by simp;omega
  rw[hd] at j2;simp only[yC] at j2;rw[<-j2]
  repeat'(first|refine yA ?_|refine y2 ?_ ?_|refine y4 λh=>?_|exact y5|fail)
  all_goals exact bD
theorem vz {p:List Nd}:∀ {t t':Fo} {i:Nat},t.At p i->t'.At p i->t.cnt=t'.cnt->t=t'
 | .nil,.nil,_,_,_,_=>rfl
 | .nil,.cons _ _ _,_,_,_,h=>by simp[Fo.cnt] at h
 | .cons _ _ _,.nil,_,_,_,h=>by simp[Fo.cnt] at h
 | .cons x k n,.cons x' k' n',i,h1,h2,h=>by
   obtain⟨a1,a2,a3,a4⟩:=h1;obtain⟨b1,b2,b3,b4⟩:=h2;rw[a1] at b1;cases b1;have hk:=vz a3 b3 aa;subst hk;have hn:=vz a4 b4 (by simp only[Fo.cnt] at h;omega);subst hn;rfl
theorem Fg {p:List Nd}:∀ {t t':Fo} {i:Nat},t.At p i->t'.At p i->t.size=t'.size->t=t'
 | .nil,.nil,_,_,_,_=>rfl
 | .nil,.cons _ _ _,_,_,_,h=>by simp only[Fo.size] at h;omega
 | .cons _ _ _,.nil,_,_,_,h=>by simp only[Fo.size] at h;omega
 | .cons x k n,.cons x' k' n',i,h1,h2,h=>by
   obtain⟨a1,a2,a3,a4⟩:=h1;obtain⟨b1,b2,b3,b4⟩:=h2;rw[a1] at b1;cases b1;have hk:=vz a3 b3 aa;subst hk;have hn:=Fg a4 b4 (by simp only[Fo.size] at h;omega);subst hn;rfl
def awT:Fo:=.cons ⟨11,0,[],2⟩ (.cons ⟨3,0,[88],0⟩ .nil (.cons ⟨4,0,[],1⟩ (.cons ⟨13,0,[],2⟩ (.cons ⟨3,0,[95,65,68,82],0⟩ .nil (.cons ⟨1,1,[],0⟩ .nil .nil)) .nil) .nil)) .nil
def Ea:List Ent:=E0++[dU [92,88] 11 0 1 0,dU [92,88,46,95,65,68,82] 13 3 1 3]
theorem H7:awT.At awP 0:=by
 unfold awT
 repeat'(first|exact trivial|exact rfl|refine⟨?_,?_⟩)
theorem tC:dX awP=true:=by decide+kernel
theorem H8:jR awP (anS awP awT).F (anS awP awT).S awT awP.length 0 (anS awP awT).G=[]:=by decide+kernel
theorem GH:ew []=[]:=by simp[ew]
theorem aw_D:aY awP 1 false awT 0 ⟨true,0,[]⟩ E0 []=(Ea,[],0):=bd
theorem E8:BitO E0:=by
 intro k
 match k with
 |0=>exact (ac:(0:Int)<=1099511627776)
 |1=>exact (ac:(0:Int)<=1099511627776)
 |2=>exact (ac:(0:Int)<=1099511627776)
 |k+3=>exact (ac:(0:Int)<=1099511627776)
theorem EG:RegE [] E0:=by
 intro k hk ho
 match k,hk with
 |0,_=>exact absurd ho ac
 |1,_=>exact absurd ho ac
 |2,_=>exact absurd ho ac
theorem D_:FQ 12 [] 0 [] (bV true) 0 []:=by
 have hw:mG awP:=by
  intro x hx;have:∀ x∈awP,x.str.length<=10:=ac;have:=this x hx;omega
 have hI:re awP:=by
  have:∀ x∈awP,0<=x.int:=ac;exact this
 obtain⟨h1,t,ha,hv,hd,hs⟩:=jG tC;have ht:t=awT:=Fg ha H7 (by rw[hs];rfl);subst ht;have hck:=pw awP hw hI tC h1 awT ha hv hs
 have h6:C6 (jR awP (anS awP awT).F (anS awP awT).S awT awP.length 0 (anS awP awT).G):=by rw[H8];intro d hd;cases hd
 have H:PrO awP:=⟨h1,hw,hI,λj hj=>BR h6 j hj,λj hj=>by
  obtain⟨sl,h1,h2⟩:=cn ha hv (Z08 _) (aa:j<0+awT.size)
  exact uy h1 h2⟩
 rw[H8,GH] at hck;have hen:=Bc awP h1 ac awT ha hv hs
 have hld:=Ao awP H [] ac hck (λd hd=>by cases hd) awT ha hv hs (s_ ha hv hs) hen E0 [] ac EG E8 _ aw_D (Ea,[],0) rfl _ _ _ (λh=>absurd rfl h) (λ_ h=>absurd rfl h) λ_ _=>⟨rfl,rfl,rfl⟩
 have hpa:=C5;have hn:=EP;have l1:=An Ea [⟨awP,[]⟩] [92,88] [95,65,68,82] ac ac;rw[show fX Ea [92,88] [95,65,68,82]=some 4 by kernel_rfl] at l1;have l2:=An Ea [⟨awP,[]⟩] [92,88] [88] ac ac;rw[show fX Ea [92,88] [88]=some 3 by kernel_rfl] at l2;have ho:=EK Ea [⟨awP,[]⟩] 4 (some (dU [92,88,46,95,65,68,82] 13 3 1 3)) rfl;refine wW Tryz.func12 ?_
 repeat'(first|refine yA ?_|refine y2 ?_ ?_|refine y4 λh=>?_|refine an hpa ?_|refine wX (eO [] hn ?_)|(refine wX ?_;refine ot [0,1,2,3] hld rfl rfl rfl rfl rfl bc mF rfl rfl (wr:=[(0,some (jb 4 5 6 5 2)),(1,none),(2,none),(3,none),(4,some (oB Ea)),(5,some (pB Ea)),(6,some (tB [⟨awP,[]⟩]))]) (by rfl) ?_)|refine wX (eO [0,4,5,6] l1 ?_)|refine wX (eO [0,4,5,6] l2 ?_)|refine wX (eO [0,4,5,6] ho ?_)|exact y5|fail)
 refine RegX.atCmp (CmpG.go rfl rfl ⟨⟨bd,bd⟩,trivial⟩ (BrG.any (λh=>?_) (λh=>?_)))
 ·
  repeat'(first|refine yA ?_|refine y2 ?_ ?_|exact y5|fail)
  exact cJ (.inl rfl) rfl rfl
 ·exfalso;revert h;decide
end
section
open Go Ab Go.RowKit Go.Maps Go.Sort Go.Shelf
theorem CP {l ss:List Int} (h:ss.Perm l) (hl:l.Pairwise (·<=·)):ss.mergeSort (λx y=>decide (x<=y))=l:=by
 have tr:∀ a b c:Int,decide (a<=b)=true->decide (b<=c)=true->decide (a<=c)=true:=λa b c h1 h2=>by grind
 have to:∀ a b:Int,(decide (a<=b)||decide (b<=a))=true:=λa b=>by grind
 refine List.Perm.eq_of_pairwise (le:=λa b=>decide (a<=b)=true) (λa b _ _ h1 h2=>?_) (List.pairwise_mergeSort tr to ss) (hl.imp λh=>by grind) ((Z57 ss _).trans h)
 grind
def fv (s:Int):List Ent->List (Int×Int)
 |[]=>[]
 |x::t=>(s,x.par)::fv (s+1) t
theorem kX:∀ (E:List Ent) (s:Int),(fv s E).length=E.length
 |[],_=>rfl
 |x::t,s=>by simp[fv,kX t]
theorem rM:∀ (E:List Ent) (s:Int) (r:Int×Int),r∈fv s E->s<=r.1/\r.1<s+E.length
 |[],_,r,h=>by cases h
 |x::t,s,r,h=>by
  rcases Z0h.1 h with rfl|h
  ·grind
  ·have:=rM t (s+1) r h
   grind
theorem gA:∀ (E:List Ent) (s:Int),((fv s E).map (·.1)).Pairwise (·<·)
 |[],_=>Z5i
 |x::t,s=>by
  rw[fv,Z13];refine Z2v.2 ⟨λz hz=>?_,gA t (s+1)⟩;obtain⟨r,hr,rfl⟩:=Z1d.1 hz;have:=rM t (s+1) r hr;omega
abbrev Rel:=Value->Option (DataW Unit×List MemPlace)
def If (R:Rel) (r:Int×Int) (m:MapEntry):Prop:=m.key=.int .i64 r.1/\(-9223372036854775808<=r.1/\r.1<=9223372036854775807)/\R m.val=some (.lit (.int .i64 r.2),[])
theorem DK {φ:Ph} {x:Ent} {v:Value} (h:VO φ true (fL x) v):jk (H:=Unit) v=some (.lit (.int .i64 x.par),[]):=by
 obtain⟨ys,rfl,ha⟩:=h
 match ys,ha with
 |[y0,y1,y2,y3,y4,y5,y6,y7,y8,y9,y10,y11,y12,y13],⟨h0,h1,h2,h3,h4,h5,h6,h7,h8,h9,h10,h11,h12,h13,_⟩=>
  simp only[Sr] at h0 h1 h2 h3 h4 h5 h6 h7 h8 h9 h10 h11 h12 h13;subst h0;subst h1;subst h2;subst h3;subst h4;subst h5;subst h6;subst h7;subst h8;subst h9;subst h10;subst h11;subst h12;subst h13;simp[jk,Ha,Ba]
theorem rK {φ:Ph}:∀ (E:List Ent) (b:Nat) (s:Int) (M:List MapEntry),EntsR φ oN true fL (kN b s E) M->0<=s->s+E.length<=1000000->All2 (If jk) (fv s E) M/\M.map (·.born)=List.range' b E.length
 |[],b,s,[],_,_,_=>⟨trivial,rfl⟩
 |[],b,s,_::_,h,_,_=>h.elim
 |x::t,b,s,[],h,_,_=>h.elim
 |x::t,b,s,m::M,⟨⟨h1,h2,h3⟩,h4⟩,h0,hl=>by
  simp only[Z04] at hl;obtain⟨i1,i2⟩:=rK t (b+1) (s+1) M h4 aa aa;refine⟨⟨⟨h1,ae,DK h3⟩,i1⟩,?_⟩;rw[Z13,i2,h2];rfl
theorem F5 {z:Int} (h1: -9223372036854775808<=z) (h2:z<=9223372036854775807):keyOf Tryz.prog 3 (.int .i64 z)=some (.int .i64 z):=by
 have hw:(Lit.int .i64 z).wf=true:=by
  grind [Lit.wf,IntKind.min,IntKind.bits,IntKind.signed,IntKind.max]
 simp[keyOf,Tryz.underlying3,mapKey,hw]
def zr (r:Int×Int):Lit×DataW Unit:=(.int .i64 r.1,.lit (.int .i64 r.2))
theorem vR {R:Rel}:∀ {rs:List (Int×Int)} {ms:List MapEntry},All2 (If R) rs ms->ms.map (WideElems.rg Tryz.prog 3 R)=rs.map zr/\(ms.map (·.key)=rs.map λr=>Value.int .i64 r.1)/\∀ x∈ms,∃ y,WideElems.rd Tryz.prog 3 R x=some y
 |[],[],_=>⟨rfl,rfl,λx hx=>by cases hx⟩
 |r::rs,m::ms,h=>by
  obtain⟨i1,i2,i3⟩:=vR h.2;obtain⟨hk,⟨k1,k2⟩,hv⟩:=h.1
  grind [WideElems.rd,F5,zr,WideElems.rg]
 |[],_::_,h=>h.elim
 |_::_,[],h=>h.elim
def nQ (rs:List (Int×Int)):DataW Unit:=.map ((rs.map zr).foldr DataW.insert [])
theorem u9 (rs:List (Int×Int)):Maps.size (nQ rs)=rs.length:=by
 show ((rs.map zr).foldr DataW.insert []).length=_;rw[(Z3h _).length_eq];simp
theorem FJ {φ:Ph} {w:World} {b:Nat} {E:List Ent} {M:List MapEntry} {ck:Nat} (hE:E.length<=1024) (hm:w.heap[b]? =some (.map M.toArray ck)) (hM:EntsR φ oN true fL (kN 0 0 E) M) (hck:ck=E.length):w.ownsMap Tryz.prog 3 jk b E.length (nQ (fv 0 E)):=by
 obtain⟨r1,r2⟩:=rK E 0 0 M hM (Z2l _) aa;obtain⟨g1,g2,g3⟩:=vR r1
 have hl:M.length=E.length:=by grind [kX,r1.len]
 refine⟨M.toArray,ck,hm,⟨?_,⟨?_,?_,?_⟩,ae⟩,ae,by simp only[nQ,<-g1]⟩
 ·grind [maxLen]
 ·intro x hx
  have:x.born∈M.map (·.born):=Z1d.2 ⟨x,ae,rfl⟩
  grind
 ·grind
 ·show (M.toArray.toList.map (·.key)).Nodup
  rw[show M.toArray.toList=M by simp,g2];refine Z2p.2 ((Z2p.1 (gA E 0)).imp λh e=>?_)
  grind
theorem wM (φ:Ph):∀ K:List Int,All2 (Sr φ) (K.map λz=>S.int .i64 z) (K.map encZ)
 |[]=>trivial
 |z::t=>⟨rfl,wM φ t⟩
theorem CG {n g cap i:Nat} (hi:n+2<=i):(λi=>if i=n then some (g,0) else if i=n+1 then some (cap,0) else (none:Option (Nat×Nat))) i=none:=ae
theorem SC.rowI {P:Program} {f:FuncId} {args:List V} {n:Nat} {L:Hp} (K:List Int) (hL:∀ i,n<=i->lk L i=none)
 (h:∀ (φ:Ph) (xs:List Value) (w:World),All2 (Vr φ) args xs->Ab.Good φ L w->Calls P f xs.toArray w λe w'=>∃ v,e=.returned v/\w'.ownsRow w.heap.size 3 1 v K.length (K.map encZ)/\(v=.slice none 0 0↔K=[])/\RowKit.Below w.heap.size w w'):
 SC P f args n L (.s (.row n (n+1) K.length)) (n+2) (put L n (gQ n K)):=by
 by_cases hK:K=[]
 ·subst hK
  intro φ xs w h1 h2 h3;refine Z4d (h φ xs w h1 h2) ?_;rintro e w' ⟨v,rfl,_,hn,hb⟩;have hv:=hn.2 rfl
  have old:∀ i bl,lk (put L n (gQ n [])) i=some bl->lk L i=some bl:=λi bl hi=>by
   rw[aE] at hi;split at hi
   ·cases hi
   ·exact hi
  have g2:Ab.Good φ (put L n (gQ n [])) w:=h2.sub old;refine⟨φ,v,rfl,.inl ⟨rfl,hv⟩,⟨λi bl hi=>?_,g2.inj,λb l hb'=>⟨?_,(g2.fz b l hb').2⟩,h2.gz⟩,λi hi=>h3 i aa,⟨hb.os,hb.tape,hb.output,hb.size,λb hb' _=>hb.block b hb',λj bl b hj hp hlt=>⟨j,bl,b,old j bl hj,hp,rfl,id,.inl rfl⟩,λ_ _ h=>h,λ_ _ h=> .inl h⟩,aa,λ_ _=>rfl⟩
  ·obtain⟨b,hb1,hat⟩:=h2.hr i bl (old i bl hi)
   exact⟨b,hb1,hat.mono (Ph.le_refl _) (hb.block _ hat.lt)⟩
  ·rw[hb.block b (h2.fzlt hb')];exact (h2.fz b l hb').1
 ·have hun:gQ n K=some {cells:=K.map λz=>S.int .i64 z,ty:=3,more:=true,sym:=true,flat:=true,gh:=some (n+1,1)}:=j0 (by intro e;exact hK (List.map_eq_nil_iff.1 e))
  rw[hun]
  refine SC.fresh _ hL aa λφ xs w h1 h2=>Z4d (h φ xs w h1 h2) ?_
  rintro e w' ⟨v,rfl,hrow,hn,hb⟩
  rcases hrow.2 with ⟨hnil,_⟩|⟨g,cap,cur,hv,hbase,hheap,r1,r2,r3,r4⟩
  ·grind
  ·refine⟨g,λi=>if i=n then some (g,0) else if i=n+1 then some (cap,0) else none,v,rfl,hb,hbase,if_pos rfl,λi hi=>CG hi,λφ' hle hc=>?_⟩
   have hφn:φ' n=some (g,0):=ae;have hφ1:φ' (n+1)=some (cap,0):=ae
   have hcur:cur.toList=K.map encZ++cur.toList.drop K.length:=by
    have:=Z2m K.length cur.toList
    grind
   refine⟨.inr ⟨Z1s.2 hK,(g,0),cap,hφn,hφ1,hv,r1⟩,[],K.map encZ,cur.toList.drop K.length,(0,0),?_,rfl,wM _ K,λh=>(by cases h),λ_ o _=>av,λg' z' e=>?_,λg' e=>(by cases e)⟩
   ·show w'.heap[g]? =some (.cells ([]++(K.map encZ++cur.toList.drop K.length)).toArray 3 (0,0))
    rw[Z1e,<-hcur];simpa using hheap
   all_goals grind
theorem Hh {φ:Ph} {w:World} {E:List Ent} {T:List Tb} (hE:E.length<=1024) (hg:Ab.Good φ (tT E T) w) {b:Nat×Nat} (hb:φ 0=some b):
 ∃ bm,w.cell? ⟨b.1,0+b.2,none⟩=some (.map (some bm))/\b.1<w.heap.size/\w.ownsMap Tryz.prog 3 jk bm E.length (nQ (fv 0 E)):=by
 obtain⟨b',hb',hat⟩:=hg.hr 0 (jb 1 2 3 (E.length:Nat) (1+(T.length:Int))) rfl;rw[hb] at hb';cases hb';have hlt:=hat.lt;obtain⟨pre,xs,rest,fr,h1,hp,h2,_⟩:=hat;simp only[cU] at h1;obtain⟨y,hy,hyr⟩:=h2.get (i:=0) rfl;have hyr:=Sr.mono (Bl.ph_le_self _ φ) hyr;obtain⟨q,hq,hq2,rfl⟩:=hyr;obtain⟨q',hq',hatm⟩:=hg.hr 1 (oB E) rfl;rw[hq] at hq';cases hq';obtain⟨M,hm,hM⟩:=o8 (r:=false) er hatm hq2;refine⟨q.1,?_,hlt,FJ hE hm hM rfl⟩;simp only[World.cell?,h1]
 grind
def qr (s:Int):Nat->List Int
 |0=>[]
 |n+1=>s::qr (s+1) n
theorem sT:∀ (n:Nat) (s:Int),(qr s n).length=n
 |0,_=>rfl
 |n+1,s=>by simp[qr,sT n]
theorem mS:∀ (E:List Ent) (s:Int),(fv s E).map (·.1)=qr s E.length
 |[],_=>rfl
 |x::t,s=>by rw[fv,Z13,mS t];rfl
theorem CN {E:List Ent} {T:List Tb} (i:Nat) (hi:4<=i):lk (tT E T) i=none:=by
 unfold tT;rw[aQ,if_neg aa,aQ,if_neg aa,aQ,if_neg aa,aQ,if_neg aa];rfl
theorem xE (E:List Ent) (T:List Tb) (hE:E.length<=1024):FQ 26 [.s (.ptr (some (0,0)))] 4 (tT E T) (.s (.row 4 5 E.length)) 6 (put (tT E T) 4 (gQ 4 (qr 0 E.length))):=by
 refine⟨bd,?_⟩;have hk:=mS E 0
 have:=SC.rowI (P:=Tryz.prog) (f:=26) (args:=[.s (.ptr (some (0,0)))]) (n:=4) (L:=tT E T) (qr 0 E.length) CN λφ xs w ha hg=>?_
 ·rw[sT] at this;exact this
 match xs,ha with
 |[x],⟨h1,_⟩=>
  obtain⟨b,hb,hx⟩:=h1;subst hx;obtain⟨bm,g1,g2,g3⟩:=Hh hE hg hb
  have hsz:Maps.size (nQ (fv 0 E))=E.length:=by rw[u9,kX]
  refine Z4d (ux b.1 (0+b.2) bm E.length (nQ (fv 0 E)) jk w g1 g3 (by rw[hsz];unfold maxLen;omega) ae) ?_;rintro e w' ⟨v,ss,rfl,hC,hrow,hn,hbw⟩
  have hperm:ss.Perm (qr 0 E.length):=by
   refine hC.trans ?_;simp only[nQ,intKeys];refine ((Z3h ((fv 0 E).map zr)).map _).trans ?_;rw[List.map_map,<-hk];exact List.Perm.refl _
  have hs:=CP hperm (by rw[<-hk];exact (gA E 0).imp λh=>by omega)
  have hlen:(qr 0 E.length).length=ss.length:=by rw[<-hs];simp
  refine⟨v,rfl,ae,?_,hbw⟩;rw[hn,<-hs];constructor
  ·rintro rfl;simp
  ·intro e;exact Z15 ae
end
section
open Go Ab
theorem Hx (E:List Ent) (T:List Tb) (k:Nat) (hk:k<E.length) (X:Ent) (hX:E.getD k eZ=X):FQ 27 [.s (.ptr (some (0,0))),nI k] 4 (tT E T) (.tup [.agg (Hy X),.s (.bool true)]) 4 (tT E T):=by
 have h:=EK E T (k:Int) (some (E.getD k eZ)) (by grind [HT])
 grind
end
section
open Go Ab
open Go.ChangeShapes Go.WideShapes Go.ChangeAt Go.RowKit
section
variable {H:Type} {w:World} {p:List MemPlace} {v:Value}
theorem own:ownKnob Tryz.prog.godebug=none:=bd
theorem Di:laidOutB Tryz.prog=true:=bd
theorem oO {enc:TypeId×Value->H} {a:Assume} {C:Checked} {os:Os} {f:FuncId} {fn:Func} {s:ChangeSpec} {conds:List PathCond} {apart fresh handsOn again:Bool} {X:World->Array Value->Prop}
 (hX:∀ (w w':World) (args:Array Value),w.heap=w'.heap->X w args->X w' args)
 (own:ownKnob C.prog.godebug=none) (started:os.Started) (noInit:C.prog.inits.idxOf? f=none) (hfn:C.prog.funcs[f]? =some fn)
 (witness:∃ (w:World) (tape:Tape) (i:Input),w.os=os/\(w.forCall tape i).Shaped C.prog/\i.vars=[]/\Input.okWide C.prog (w.forCall tape i) .any w.heap.size f i/\
   ((s.pre enc C.prog fn conds apart (w.forCall tape i).memory i.args/\X (w.forCall tape i).memory i.args)/\sizedMet enc C.prog fn (OpenSpec.ofChange s) apart (w.forCall tape i).memory i.args)/\a.holds C.prog (lone (Frame.enter C.prog f i.args .normal) [] (w.forCall tape i)))
 (contract:∀ (W:World) (base:Nat) (args:Array Value) (ds gs:List (DataW H)) (before:List MemPlace),W.ShapedOpen C.prog->
   (∀ (j:Nat) t v,fn.params[j]? =some t->args[j]? =some v->Value.okWide C.prog W .any base t v)->
   DataW.Whole enc C.prog fn.params.toList s.vars apart W args.toList ds gs before->
   conds.all (PathCond.test C.prog ⟨fn.params.toList,ds,s.plain.varTypes C.prog,gs⟩)=true->
   (DataW.weightsEach C.prog (fn.params.toList++s.plain.varTypes C.prog) (ds++gs)).all (·<=reachBytes)=true->X W args->
   a.holds C.prog (lone (Frame.enter C.prog f args .normal) [] W)->
   Calls C.prog f args W λe W'=>∃ v,e=.returned v/\s.post enc C.prog fn apart fresh handsOn again W args v W'):
 ReturnsInHanded a C os f .any (λw args=>(s.pre enc C.prog fn conds apart w args/\X w args)/\sizedMet enc C.prog fn (OpenSpec.ofChange s) apart w args) (s.post enc C.prog fn apart fresh handsOn again):=by
 refine returnsInHanded_of_calls own started noInit witness ?_;intro w tape i _ hsh _ hok hpre hholds;obtain⟨_,_,_,fn',hfn',_,_,_,_,hval⟩:=hok;have e:fn'=fn:=Z1c (hfn'.symm.trans hfn);subst e;obtain⟨⟨⟨ds,gs,before,hw,hc⟩,hx⟩,hz⟩:=hpre;have hw':=DataW.Whole.of_heap (w':=w.forCall tape i) (by rfl) hw
 refine (contract (w.forCall tape i) w.heap.size i.args ds gs before hsh hval hw' hc (hz.weights hw) (hX _ _ _ (by rfl) hx) hholds).mono λe W' ⟨v,he,hp⟩=>?_
 grind [ChangeSpec.post_blind]
theorem SC.law {P:Program} {f:FuncId} {args:List V} {n:Nat} {L:Hp} {n':Nat} {L':Hp} (h:SC P f args n L (.s (.bool true)) n' L') (hro:∀ i bl,lk L i=some bl->bl.ro=true) {φ:Ph} {xs:List Value}
 (h1:All2 (Vr φ) args xs) (h2:Ab.Good φ L w) (h3:∀ i,n<=i->φ i=none):Calls P f xs.toArray w λe w'=>e=.returned (.bool true)/\Below w.heap.size w w':=by
 refine Z4d (h φ xs w h1 h2 h3) ?_;rintro e w' ⟨φ',x,rfl,hv,_,_,st,_⟩;have hx:x=.bool true:=hv;refine⟨by rw[hx],st.os,st.tape,st.output,st.size,λk hk=>st.keep k hk ?_⟩;rintro⟨i,bl,c,hl,_,_,hr⟩
 grind
def xe {H:Type}:List (DataW H)->List S
 |[]=>[]
 | .agg [.lit (.string a),.lit (.string b)]::t=> .str a::.str b::xe t
 |_::t=>xe t
theorem px:Tryz.prog.cellsOf 293=2:=bd
theorem Gz:Tryz.prog.cellsOf 9=1:=bd
theorem xz {enc:TypeId×Value->H} {base:Nat} {spare:Nat->Bool} {held:Bool} {fuel:Nat} {cs:List Value} {x:DataW H×List MemPlace} (h:DataW.trod enc Tryz.prog w base spare held fuel 293 cs=some x):
 ∃ a b:List UInt8,cs=[.string ⟨a.toArray⟩,.string ⟨b.toArray⟩]/\x.1=.agg [.lit (.string a),.lit (.string b)]:=by
 obtain⟨xs,m,rfl,rfl,hlen,hn,hf⟩:=DataW.trod_struct Tryz.underlying293 h;rw[px] at hlen
 match cs,hlen with
 |[c0,c1],_=>
  have f0:=hf 0 _ rfl;have f1:=hf 1 _ rfl;change DataW.trod enc Tryz.prog w base spare held m 9 (([c0,c1].drop 0).take (Tryz.prog.cellsOf 9))=_ at f0;change DataW.trod enc Tryz.prog w base spare held m 9 (([c0,c1].drop 1).take (Tryz.prog.cellsOf 9))=_ at f1;rw[Gz] at f0 f1;have hn:xs.length=2:=hn
  match xs,hn with
  |[x0,x1],_=>
   obtain⟨s0,e0,e0',_⟩:=Z5k Tryz.underlying9 f0;obtain⟨s1,e1,e1',_⟩:=Z5k Tryz.underlying9 f1;simp at e0 e1;subst e0;subst e1;refine⟨s0.data.toList,s1.data.toList,ae,?_⟩;simp[e0',e1']
theorem mY {H:Type} {enc:TypeId×Value->H} {w:World} {base:Nat} {spare:Nat->Bool} {held:Bool} {m:Nat} {φ:Ph}:∀ (xs:List (DataW H×List MemPlace)) (cs:List Value),cs.length=xs.length*2->(∀ i,i<xs.length->DataW.trod enc Tryz.prog w base spare held m 293 ((cs.drop (i*2)).take 2)=xs[i]?)->
 All2 (Sr φ) (xe (xs.map (·.1))) cs
 |[],[],_,_=>trivial
 |[],_::_,h,_=>by grind
 |x::xs,[],h,_=>by grind
 |x::xs,[_],h,_=>by grind
 |x::xs,c0::c1::cs,h,hf=>by
  have h0:=hf 0 av;simp at h0;obtain⟨a,b,e,ex⟩:=xz h0;simp only[Z4s,and_true] at e;obtain⟨rfl,rfl⟩:=e
  have ih:=mY (φ:=φ) xs cs ae (λi hi=>by
   have:=hf (i+1) (by simp;omega);rw[show (i+1)*2=(i*2)+1+1 by omega] at this
   simpa using this)
  simp only[Z13,ex,xe];exact⟨rfl,rfl,ih⟩
theorem ub {enc:TypeId×Value->H} {base:Nat} {spare:Nat->Bool} {held:Bool} {fuel:Nat} {t N:Nat} {cs:List Value} {d:DataW H} (ht:Tryz.prog.underlying t=some (.array N 293)) (hc:Tryz.prog.cellsOf t=N*2) (h:DataW.trod enc Tryz.prog w base spare held fuel t cs=some (d,p)) (φ:Ph):
 ∃ ds,d=.agg ds/\All2 (Sr φ) (xe ds) cs:=by
 obtain⟨xs,m,rfl,hx,hlen,hn,hf⟩:=DataW.trod_array ht h;simp only[Z0j] at hx;refine⟨_,hx.1,mY (enc:=enc) (w:=w) (base:=base) (spare:=spare) (held:=held) (m:=m) xs cs ae (λi hi=>?_)⟩
 grind [px]
def zW (W:World):Nat->Option (List Value):=λb=>match W.heap[b]? with|some (.cells a _ _)=>some a.toList|_=>none
def Ho (W:World):Ph:=⟨λ_=>none,zW W⟩
theorem zI {W:World} (h:GzOK (zW W)):Ab.Good (Ho W) [] W:=by
 refine⟨λi bl hi=>(by cases hi),λi j bl bl' b b' hi=>(by cases hi),λb l hb=>⟨?_,λhw=>?_⟩,h⟩
 ·have hb:zW W b=some l:=hb
  unfold zW at hb;split at hb
  ·rename_i a ty fr he;cases hb;exact⟨ty,fr,by simpa using he⟩
  ·cases hb
 ·obtain⟨i,bl,c,hi,_⟩:=hw;cases hi
theorem Hz:∀ i bl,lk ([]:Hp) i=some bl->bl.ro=true:=λi bl h=>by cases h
theorem BM {W:World} {b o:Nat} (h:W.cell? ⟨b,o,none⟩=some v):∃ vs,zW W b=some vs/\vs[o]? =some v:=by
 unfold World.cell? at h;split at h
 ·rename_i arr ty fr hb
  refine⟨arr.toList,by unfold zW;rw[hb],?_⟩
  simpa using h
 ·cases h
instance:Inhabited Nd:=⟨dN⟩
theorem Ed (b off k:Nat):(⟨b,off,none⟩:Addr).add k=⟨b,off+k,none⟩:=by
 grind [Addr.add]
theorem Gy:Tryz.prog.cellsOf 3=1:=bd
theorem GC:Tryz.prog.bytesOf 3=8:=bd
section
variable {H:Type} {enc:TypeId×Value->H} {W:World} {base:Nat} {held:Bool}
theorem xA {r:Reach} {b0:Nat} {d:DataW H} (hv:Value.okWide Tryz.prog W r b0 22 v) (h:DataW.Trod enc Tryz.prog W base (λ_=>true) held 22 v d p) (hw:(d.weights Tryz.prog 22).all (·<=reachBytes)=true):
 ∃ l:List Int,Vr (Ho W) (.s (q9 l)) v/\l.length<=20000000000000:=by
 obtain⟨a0,len0,cap0,rfl⟩:=okWide_slice Tryz.underlying22 hv;obtain⟨fuel,hf⟩:=h
 rcases Go.Deep.open_slice1 Tryz.underlying22 Gy hf with ⟨hcs,_⟩|⟨a,len,cap,m,n,V,D,Pl,hcs,_,hl,_,hm,hd,hx⟩
 ·simp[Value.cells] at hcs
  obtain⟨rfl,rfl,rfl⟩:=hcs;exact⟨[],.nil _ _ _ _ (λ_=>rfl),av⟩
 ·simp[Value.cells] at hcs
  obtain⟨rfl,rfl,rfl⟩:=hcs;simp only[if_true] at hm;subst hm
  have hcap:m<=20000000000000:=by
   have e:d=.slice ((List.range len0).map D) ((List.range (m-len0)).map λj=>D (len0+j)):=congrArg Prod.fst hd;rw[e] at hw;unfold DataW.weights at hw
   grind [Tryz.underlying22,GC,reachBytes]
  have each:∀ i,i<m->∃ z:Int,W.cell? (a.add i)=some (.int .i64 z):=by
   intro i hi;obtain⟨h1,h2⟩:=hx i hi;obtain⟨z,e1,_,w1⟩:=Z4e Tryz.underlying3 h2
   grind
  obtain⟨f,hfq⟩:=Go.Deep.choose_lt each;refine⟨(List.range len0).map f,?_,ae⟩;unfold q9;rw[show ((List.range len0).map f).length=len0 by simp];by_cases h0:len0=0
  ·subst h0
   exact .nil _ _ _ _ (λe=>by cases e)
  obtain⟨b,off,spot⟩:=a
  have hspot:spot=none:=by simpa [Addr.add] using World.cell?_spot (hfq 0 aa)
  subst hspot
  have hc:∀ i,i<m->W.cell? ⟨b,off+i,none⟩=some (.int .i64 (f i)):=λi hi=>by
   grind [Ed]
  obtain⟨vs,hz,_⟩:=BM (hc 0 aa);refine .frz _ 1 len0 b off m vs hz hl (λi _=> .int .i64 (f i)) (λ_ _=>rfl) (λi j x hi hj=>?_) (λi j x hi hj=>?_)
  ·grind [BM]
  ·cases j with
   |succ j=>simp at hj
   |zero=>
    simp only[Z11,Z06] at hj;subst hj;rw[show ((List.range len0).map f).getD i 0=f i by grind];exact .int _ _
end
end
section
variable {W:World}
theorem row0:(((begin Tryz.prog (λ_ _=>0) default).world.heap[1]?).bind Obj.row?).map (·.2)=some 301:=bd
theorem gty0:(Tryz.prog.globals[1]?).map (·.type)=some 301:=bd
theorem gcl0:Tryz.prog.cellsOf 301=12*2:=bd
theorem row1:(((begin Tryz.prog (λ_ _=>0) default).world.heap[2]?).bind Obj.row?).map (·.2)=some 302:=bd
theorem gty1:(Tryz.prog.globals[2]?).map (·.type)=some 302:=bd
theorem gcl1:Tryz.prog.cellsOf 302=13*2:=bd
theorem row2:(((begin Tryz.prog (λ_ _=>0) default).world.heap[3]?).bind Obj.row?).map (·.2)=some 303:=bd
theorem gty2:(Tryz.prog.globals[3]?).map (·.type)=some 303:=bd
theorem gcl2:Tryz.prog.cellsOf 303=29*2:=bd
theorem xT (hS:W.ShapedOpen Tryz.prog) {g t:Nat} (hg:g<6) (hr:(((begin Tryz.prog (λ_ _=>0) default).world.heap[g]?).bind Obj.row?).map (·.2)=some t):∃ cs,W.heap[g]? =some (.cells cs t (0,0)):=by
 cases hq:((begin Tryz.prog (λ_ _=>0) default).world.heap[g]?).bind Obj.row? with
 |none=>rw[hq] at hr;cases hr
 |some x=>
  obtain⟨z,t'⟩:=x;rw[hq] at hr;simp only[Z1j,Z06] at hr;subst hr;obtain⟨cs,h1,_⟩:=hS.1 g z t' (Z3w hg (by decide+kernel)) hq;exact⟨cs,h1⟩
theorem B4 {φ:Ph}:∀ {l:List S} {xs:List Value},All2 (Sr φ) l xs->l.all bL=true->All2 (Pr φ.z) l xs
 |[],[],_,_=>trivial
 |[],_::_,h,_=>h.elim
 |_::_,[],h,_=>h.elim
 |a::l,x::xs,h,hp=>by
  rw[Z1b,Z07] at hp;exact⟨h.1.pr hp.1,B4 h.2 hp.2⟩
theorem qt (hS:W.ShapedOpen Tryz.prog) {name:String} {i ty N:Nat} {d:DataW Unit} {ds:List (DataW Unit)} {l:List (String×DataW Unit)} {ps:List MemPlace} {cs0:List S} (hv:DataW.LaidVars Tryz.prog W ((name,d)::l) ps) (hi:i<6)
 (hr:(((begin Tryz.prog (λ_ _=>0) default).world.heap[i]?).bind Obj.row?).map (·.2)=some ty) (hn:Tryz.prog.globalNamed name=some i) (ht:(Tryz.prog.globals[i]?).map (·.type)=some ty) (hu:Tryz.prog.underlying ty=some (.array N 293)) (hc:Tryz.prog.cellsOf ty=N*2)
 (hd:d=.agg ds) (h0:xe ds=cs0) (hp:cs0.all bL=true):∃ vs,zW W i=some vs/\All2 (Pr (zW W)) cs0 vs:=by
 obtain⟨g,t,cs,fuel,p,q,h1,h2,h3,h4,_⟩:=hv;rw[hn] at h1;cases h1;rw[ht] at h2;cases h2;obtain⟨cs',h5⟩:=xT hS hi hr
 have:cs=cs':=by
  simp only[World.var?,hn,Option.bind_some,h5,Z06] at h3;exact h3.symm
 subst this;obtain⟨ds',e,hall⟩:=ub hu hc h4 (Ho W);rw[hd] at e;cases e;refine⟨cs.toList,by unfold zW;rw[h5],?_⟩;rw[h0] at hall;exact B4 (φ:=Ho W) hall hp
theorem uL (hS:W.ShapedOpen Tryz.prog) (hL:laidMet Tryz.prog Rows.namespacePathsUniqueRow.laid W):GzOK (zW W):=by
 obtain⟨ps,hv,_⟩:=hL;obtain⟨_,_,_,_,_,q0,_,_,_,_,hv1,_⟩:=hv;have b0:=qt hS (ty:=301) (N:=12) (cs0:=(GS 1).getD []) hv1 ac row0 bd gty0 Tryz.underlying301 gcl0 rfl bd bd;obtain⟨_,_,_,_,_,q1,_,_,_,_,hv2,_⟩:=hv1;have b1:=qt hS (ty:=302) (N:=13) (cs0:=(GS 2).getD []) hv2 ac row1 bd gty1 Tryz.underlying302 gcl1 rfl bd bd;obtain⟨_,_,_,_,_,q2,_,_,_,_,hv3,_⟩:=hv2;have b2:=qt hS (ty:=303) (N:=29) (cs0:=(GS 3).getD []) hv3 ac row2 bd gty2 Tryz.underlying303 gcl2 rfl bd bd;intro g cs hg
 match g,hg with
 |0,hg=>cases hg
 |1,hg=>rw[hg] at b0;exact b0
 |2,hg=>rw[hg] at b1;exact b1
 |3,hg=>rw[hg] at b2;exact b2
 |g+4,hg=>cases hg
end
end
section
open Go Ab
