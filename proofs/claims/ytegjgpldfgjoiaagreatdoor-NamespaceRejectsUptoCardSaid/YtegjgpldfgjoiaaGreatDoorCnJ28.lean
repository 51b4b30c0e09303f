import Derived.Test.YtegjgpldfgjoiaaGreatDoorCnJ24
set_option linter.all false
set_option maxHeartbeats 40000000
set_option maxRecDepth 100000
namespace Go.Proofs.YtegjgpldfgjoiaaGreatDoor
open Go Ab
theorem pF (p:List Nd) (F:List (By×Nat)) (op:Int):∀ cs:List Pth,ef p F op cs= -1\/∃ i:Nat,ef p F op cs=(i:Int)/\(p.getD i dN).op=op/\∃ k,(k,i)∈F
 |[]=> .inl rfl
 |c::t=>by
  simp only[ef];split
  ·rename_i i hi
   split
   ·exact .inr ⟨i,rfl,‹_›,_,tI hi⟩
   ·exact .inl rfl
  ·exact pF p F op t
theorem im {T:List Pth} {i:Nat} (h:i<T.length):eO true 3 (qU T) (i*3)=some (hY (T.getD i z0)):=by
 unfold eO
 have hle:i*3+3<=(T.flatMap cH).length:=by rw[ek];omega
 have e:((T.flatMap cH).drop (i*3)).take 3=cH (T.getD i z0):=by
  apply Z2i
  grind [cH,kh]
 have hb:Nat.ble (i*3+3) (qU T).cells.length=true:=Z3y hle
 grind
theorem nH {φ:Ph} {w:World} {b:Nat×Nat} {p:List Nd} {nD g nG:Nat} (h:BlAt φ w b (fJ p 3 nD g nG)):
 BlAt φ w b {cells:=[.frz (λk=>ndC (p.getD k dN)) 4 p.length,.unk,.unk,.map (some 5)],ty:=186,more:=true,ro:=true}:=
 BlAt.cells (bl:=ID 4 (fJ p 3 nD g nG)) ⟨SLe.refl _,λ_ _ h=>h.cell rfl,λ_ _ h=>h.cell rfl,SLe.refl _,trivial⟩ (Zbv 4 rfl h)
def cn (p:List Nd) (len w:Int):Fo->Nat->Int->List (Nat×Nat)->List (Nat×Nat)
 | .nil,_,_,G=>G
 | .cons x k n,i,bit,G=>
   if aN p i then G
   else if x.op=19 then cn p len w n (i+1+k.size) (bit+aj p (i+1)) G
   else cn p len w n (i+1+k.size) (bit+aj p (i+2)) (if len<((bit+aj p (i+2)-1).tdiv (8*w)+1)*w then G++[(i,7)] else G)
theorem kQ (p:List Nd) (len w:Int):∀ (t:Fo) (i:Nat) (bit:Int) (G:List (Nat×Nat)),(cn p len w t i bit G).length<=G.length+t.size
 | .nil,_,_,_=>Z02 _
 | .cons x k n,i,bit,G=>by
   simp only[cn,Fo.size];split
   ·omega
   ·split
    ·have:=kQ p len w n (i+1+k.size) (bit+aj p (i+1)) G;omega
    ·have:=kQ p len w n (i+1+k.size) (bit+aj p (i+2)) (if len<((bit+aj p (i+2)-1).tdiv (8*w)+1)*w then G++[(i,7)] else G)
     grind
def iT (p:List Nd) (F:List (By×Nat)) (sc:Pth) (bl:Fo) (i:Nat) (G:List (Nat×Nat)):List (Nat×Nat):=
 if ef p F 15 (aS sc (ai (p.getD (i+1) dN).str).1)<0 then G++[(i,6)]
 else if aN p (ef p F 15 (aS sc (ai (p.getD (i+1) dN).str).1)).toNat||aN p i then G
 else cn p (aj p ((ef p F 15 (aS sc (ai (p.getD (i+1) dN).str).1)).toNat+4)) (aj p (i+2)) bl (i+5) 0 G
abbrev uP (p:List Nd) (nD:Nat) (T:List Pth) (F:List (By×Nat)) (G:List (Nat×Nat)):Hp:=[(0,some (fJ p 3 nD 6 G.length)),(1,some (qU T)),(5,some (cF F)),(6,bM 6 G)]
abbrev fv (p:List Nd) (nD:Nat) (T:List Pth) (F:List (By×Nat)) (G:List (Nat×Nat)):Hp:=[(0,some (fJ p 3 nD 8 G.length)),(1,some (qU T)),(5,some (cF F)),(6,none),(8,bM 8 G)]
theorem zO {a b:Int} (h:0<=a) (hb:0<b):0<=a.tdiv b/\a.tdiv b<=a:=by
 rw[Z5g h];exact⟨Int.ediv_nonneg h (Int.le_of_lt hb),Int.ediv_le_self _ h⟩
theorem D_ {q w:Int} (h:w=1\/w=2\/w=4\/w=8) (hq:0<=q):0<=q*w/\q*w<=8*q:=ae
theorem HZ (p:List Nd) (hp:p.length<=2048) (hw:oh p) (hI:li p) (hn:∀ j,j<p.length->kN p j) (nD:Nat) (T:List Pth) (hT:T.length=p.length) (hTl:∀ q∈T,q.segs.length<=1000000) (F:List (By×Nat)) (hF:∀ x∈F,x.2<p.length)
 (i:Nat) (hop:(p.getD i dN).op=16) (b:Nd) (bl:Fo) (G:List (Nat×Nat)) (ha:(Fo.cons b bl .nil).At p (i+4)) (hv:(Fo.cons b bl .nil).V [(true,70)]) (hG:G.length+4*2048<=1000000000):
 FQ 176 [.s (.ptr (some (0,0))),nI i] 8 (uP p nD T F G) .any 10 (fv p nD T F (iT p F (T.getD i z0) bl i G)):=by
 have hi4:=At.lt ha;have hsz:=At.size_le (Z1k hi4) ha;simp only[Fo.size] at hsz;have hpa:=lH p hw (i+1) aa;have hTg:(T.getD i z0).segs.length<=1000000:=hTl _ ae;have hrs:=mK p hp F hF (T.getD i z0) (ai (p.getD (i+1) dN).str).1 hTg 15;have hri:=Al p hp hI i (hn i aa);have hse:(Tryz.prog.types[99]).size=3:=aK
 have hcat:bU 0 (bQ i (Tryz.prog.types[99]).size)=i*3:=by rw[hse,ak,ao,Z0c]
 unfold iT;have hcase:=pF p F 15 (aS (T.getD i z0) (ai (p.getD (i+1) dN).str).1);generalize ef p F 15 (aS (T.getD i z0) (ai (p.getD (i+1) dN).str).1)=reg at*;refine wW Tryz.func176 ?_
 rcases hcase with rfl|⟨rg,rfl,hrop,key,hmem⟩
 ·rw[if_pos ac]
  repeat'(first|refine y1 ?_|refine y2 ?_ ?_|refine y4 λh=>?_|(refine wX ?_;refine ji [0] 0 hpa ?_ (hle:=by exact⟨ah _,bB (congrArg nI (by push_cast;rfl)),trivial⟩))|(refine wX ?_;refine ji [0,5] 0 hrs ?_ (hvw:=λφ w b=>nH))|(refine wX ?_;refine kF [0,1,2,3,4,5,6,7] (dh p nD G i 6 aa) rfl (bS rfl rfl rfl) rfl rfl rfl aP pi rfl rfl (wr:=[(0,some (fJ p 3 nD 8 (G.length+1))),(6,none),(8,bM 8 (G++[(i,6)]))]) (by show [_,_,_]=_;rw[az];rfl) ?_)|refine gG [.val (hY (T.getD i z0))] rfl rfl ?_ rfl ?_|refine y3 ?_|exact y5|fail)
  ·rw[hcat,hse];exact im aa
  ·unfold fv
   rw[Z03,Z0n];refine⟨.inl rfl,.tup [],[8,9],dd _,fY rfl ?_ rfl ?_ rfl rfl⟩
   ·exact⟨rfl,rfl,rfl,bh rfl trivial⟩
   ·(unfold bM;generalize List.flatMap cv _=cg;cases cg<;>rfl)
 ·have hrl:rg<p.length:=hF _ hmem
  have hrn:=hn rg hrl;have hr4:=hrn.2.1 (.inr (.inl hrop));have hrr:=Al p hp hI rg hrn;rw[if_neg aa,Z12];cases hb1:aN p rg
  ·cases hb2:aN p i
   ·rw[hb1] at hrr
    rw[hb2] at hri;simp only[Bool.or_self,Z0l,if_false]
    have hw4:aj p (i+2)=1\/aj p (i+2)=2\/aj p (i+2)=4\/aj p (i+2)=8:=by
     grind [aN,jW]
    have hcs:=bE bl (i+5)
    have hkid:(p.getD (i+4) dN).kids=((bl.starts (i+5)).length:Nat):=by rw[At.get ha,hcs];exact ha.2.1
    have hcc:=Fo.cnt_le bl;have hch:=gx p hp (i+4) (i+4+1+bl.size) hi4 (bl.starts (i+5)) hkid (At.chain ha.2.2.1) aa;have hbA:=ha.2.2.1;have hbV:=hv.2.1;generalize hcsd:bl.starts (i+5)=cs at hcs hkid hch
    repeat'(first|refine Ex.canonB 0 [0,1,2,3,4,5,6,7,6,7] 113 [(0,.s (.ptr (some (0,0)))),(5,nU (aj p (rg+4))),(6,nU (aj p (i+2))),(7,nU 0),(58,.s (eQ cs)),(59,nI cs.length),(60,nI 0)] [(0,some (fJ p 3 nD 8 (G).length)),(1,some (qU T)),(5,some (cF F)),(8,bM 8 (G))] rfl rfl ?_ ?_ ?_ ?_|refine y1 ?_|refine y2 ?_ ?_|refine y4 λh=>?_|(refine wX ?_;refine ji [0] 0 hpa ?_ (hle:=by exact⟨ah _,bB (congrArg nI (by push_cast;rfl)),trivial⟩))|(refine wX ?_;refine ji [0,5] 0 hrs ?_ (hvw:=λφ w b=>nH))|refine wX (ji [0] 0 hrr ?_)|refine wX (ji [0] 0 hri ?_)|(refine wX ?_;refine ji [0] 0 hch ?_ (hle:=by exact⟨ah _,bB (congrArg nI (by push_cast;rfl)),trivial⟩))|refine gG [.val (hY (T.getD i z0))] rfl rfl ?_ rfl ?_|refine y3 ?_|exact y5|fail)
    all_goals try (rw[hcat,hse];exact im aa)
    rotate_left 1
    ·exact aP
    ·exact⟨rfl,rfl,rfl,bh rfl trivial⟩
    ·(unfold bM;generalize List.flatMap cv _=cg;cases cg<;>rfl)
    generalize hU:cn p (aj p (rg+4)) (aj p (i+2)) bl (i+5) 0 G=U at*;generalize aj p (i+2)=w at*;generalize aj p (rg+4)=len at*
    refine cy (σ:=Fo×Nat×Nat×Int×List (Nat×Nat)) (λq=>[(7,nU q.2.2.2.1),(60,nI q.2.2.1)]) (λq=>[(0,some (fJ p 3 nD 8 (q.2.2.2.2).length)),(1,some (qU T)),(5,some (cF F)),(8,bM 8 (q.2.2.2.2))])
     (λq=>q.1.At p q.2.1/\q.1.V (List.replicate q.1.cnt (false,70))/\(i+5<=q.2.1/\q.2.1+q.1.size=i+5+bl.size)/\q.2.2.1+q.1.cnt=cs.length/\cs.drop q.2.2.1=q.1.starts q.2.1/\(0<=q.2.2.2.1/\q.2.2.2.1<=q.2.2.1*8388608)/\q.2.2.2.2.length+q.1.size<=1000000000/\cn p len w q.1 q.2.1 q.2.2.2.1 q.2.2.2.2=U) (λq=>q.1.size) (bl,i+5,0,0,G) rfl (λ_=>rfl) ?_ ?_ ?_ ?_
    ·grind
    ·exact aP
    ·exact⟨rfl,rfl,rfl,fF rfl trivial⟩
    ·rintro⟨t,cur,idx,bit,Gt⟩ ⟨t1,t2,⟨t0,t3⟩,t4,t5,⟨b1,b2⟩,t6,t7⟩
     simp only at t0 t1 t2 t3 t4 t5 b1 b2 t6 t7 |-
     cases t with
     |nil=>
      simp only[Fo.cnt,Z0p] at t4;simp only[cn] at t7;rw[<-t7]
      repeat'(first|refine yA ?_|refine y4 λh=>?_|fail)
      refine⟨.inr rfl,.tup [],[8,9],dd _,fY rfl ?_ rfl ?_ rfl rfl⟩
      ·exact⟨rfl,rfl,rfl,bh rfl trivial⟩
      ·(unfold fv bM;generalize List.flatMap cv _=cg;cases cg<;>rfl)
     |cons x ks n=>
      simp only[Fo.size] at t3 t6;simp only[Fo.cnt] at t4
      have hcur:cs.getD idx 0=cur:=by
       have:(cs.drop idx)[0]? =some cur:=by rw[t5];rfl
       grind
      have hnext:cs.drop (idx+1)=n.starts (cur+1+ks.size):=by
       rw[<-Z5c,t5];rfl
      have hcl:=At.lt t1;have hcx:=At.get t1;have hcn:=hn cur hcl;have hco:=Al p hp hI cur hcn
      have hxop:x.op=18\/x.op=19:=by
       have h:=t2.1.1
       grind [dy,bH]
      simp only[cn] at t7;have h8:0<=8*w/\8*w<18446744073709551616/\8*w≠0:=aa
      repeat'(first|refine yA ?_|refine y2 ?_ ?_|refine y4 λh=>?_|exact y5|fail)
      rw[hcur];cases hoc:aN p cur
      ·rw[hoc] at hco t7
       simp only[Z0l,if_false] at t7
       rcases hxop with hx|hx
       ·have h18:(p.getD cur dN).op=18:=ae
        rw[if_neg aa] at t7
        have hb:1<=aj p (cur+2)/\aj p (cur+2)<=256:=by
         have h0:0<=aj p (cur+2):=ce hI (cur+2);unfold aN at hoc
         grind
        have hn2:cur+2<p.length:=hcn.2.2.2.1 (.inr (.inl h18));have A1:=aU (z:=bit+aj p (cur+2)) aa aa;have A2:=aU (z:=bit+aj p (cur+2)-1) aa aa;have A3:=aU (z:=8*w) h8.1 h8.2.1;have hQ:=zO (a:=bit+aj p (cur+2)-1) (b:=8*w) aa aa;have hM:=D_ (q:=(bit+aj p (cur+2)-1).tdiv (8*w)+1) hw4 aa;have A4:=aU (z:=(bit+aj p (cur+2)-1).tdiv (8*w)) hQ.1 aa;have A5:=aU (z:=(bit+aj p (cur+2)-1).tdiv (8*w)+1) aa aa;have A6:=aU (z:=((bit+aj p (cur+2)-1).tdiv (8*w)+1)*w) hM.1 aa;by_cases hlt:len<((bit+aj p (cur+2)-1).tdiv (8*w)+1)*w
        ·rw[if_pos hlt] at t7
         repeat'(first|refine yA ?_|refine y2 ?_ ?_|(refine y4 λh=>?_;try(first|(exact absurd hlt (by assumption))|exact y6))|refine wX (ji [0] 0 hco ?_)|(refine wX ?_;refine kF [0,1,2,3,4,5,8,9] (dh p nD Gt cur 7 aa) rfl (bS rfl rfl rfl) rfl rfl rfl aP pi rfl rfl (wr:=[(0,some (fJ p 3 nD 10 (Gt.length+1))),(8,none),(10,bM 10 (Gt++[(cur,7)]))]) (by show [_,_,_]=_;rw[az];rfl) ?_)|exact y5|fail)
         all_goals try first
          |exact A1
          |exact A2
          |exact A4
          |exact A5
          |exact A6
         refine fX (n,cur+1+ks.size,idx+1,bit+aj p (cur+2),Gt++[(cur,7)]) ⟨t1.2.2.2,t2.2.2,⟨ae,ae⟩,ae,hnext,⟨ae,ae⟩,ae,t7⟩ (by simp only[Fo.size];omega) [0,1,2,3,4,5,6,7,10,11] rfl ?_ ?_ ?_
         ·repeat'(first|exact ah _|exact dd _|exact Z0o|refine⟨?_,?_⟩)
         ·rw[Z03,Z0n]
          exact⟨rfl,rfl,rfl,bh rfl trivial⟩
         ·(unfold bM;generalize List.flatMap cv _=cg;cases cg<;>rfl)
        ·rw[if_neg hlt] at t7
         repeat'(first|refine yA ?_|refine y2 ?_ ?_|(refine y4 λh=>?_;try(first|(exact absurd (by assumption) hlt)|exact y6))|refine wX (ji [0] 0 hco ?_)|exact y5|fail)
         all_goals try first
          |exact A1
          |exact A2
          |exact A4
          |exact A5
          |exact A6
         refine dz (n,cur+1+ks.size,idx+1,bit+aj p (cur+2),Gt) ⟨t1.2.2.2,t2.2.2,⟨ae,ae⟩,ae,hnext,⟨ae,ae⟩,ae,t7⟩ (by simp only[Fo.size];omega) rfl aP ⟨rfl,rfl,rfl,fF rfl trivial⟩ rfl ?_ ac
         (unfold bM;generalize List.flatMap cv _=cg;cases cg<;>rfl)
       ·have h19:(p.getD cur dN).op=19:=ae
        rw[if_pos hx] at t7;have h0:0<=aj p (cur+1):=ce hI (cur+1)
        have hb:aj p (cur+1)<=8388608:=by
         unfold aN at hoc
         grind
        have hn1:cur+1<p.length:=hcn.2.2.2.2.1 (.inl h19);have A1:=aU (z:=bit+aj p (cur+1)) aa aa
        repeat'(first|refine yA ?_|refine y2 ?_ ?_|refine y4 λh=>?_|refine wX (ji [0] 0 hco ?_)|exact y5|fail)
        all_goals try exact A1
        refine dz (n,cur+1+ks.size,idx+1,bit+aj p (cur+1),Gt) ⟨t1.2.2.2,t2.2.2,⟨ae,ae⟩,ae,hnext,⟨ae,ae⟩,ae,t7⟩ (by simp only[Fo.size];omega) rfl aP ⟨rfl,rfl,rfl,fF rfl trivial⟩ rfl ?_ ac
        (unfold bM;generalize List.flatMap cv _=cg;cases cg<;>rfl)
      ·rw[hoc] at hco t7
       simp only[if_true] at t7;rw[<-t7]
       repeat'(first|refine yA ?_|refine wX (ji [0] 0 hco ?_)|fail)
       refine⟨.inl rfl,.tup [],[8,9],dd _,fY rfl ?_ rfl ?_ rfl rfl⟩
       ·exact⟨rfl,rfl,rfl,bh rfl trivial⟩
       ·(unfold fv bM;generalize List.flatMap cv _=cg;cases cg<;>rfl)
   ·rw[hb1] at hrr
    rw[hb2] at hri;simp only[Z4m,if_true]
    repeat'(first|refine y1 ?_|refine y2 ?_ ?_|refine y4 λh=>?_|(refine wX ?_;refine ji [0] 0 hpa ?_ (hle:=by exact⟨ah _,bB (congrArg nI (by push_cast;rfl)),trivial⟩))|(refine wX ?_;refine ji [0,5] 0 hrs ?_ (hvw:=λφ w b=>nH))|refine wX (ji [0] 0 hrr ?_)|refine wX (ji [0] 0 hri ?_)|refine gG [.val (hY (T.getD i z0))] rfl rfl ?_ rfl ?_|refine y3 ?_|exact y5|fail)
    all_goals try (rw[hcat,hse];exact im aa)
    refine⟨.inl rfl,.tup [],[6,7],dd _,uI rfl ?_ rfl ?_ rfl ?_ ?_⟩
    ·exact⟨rfl,rfl,rfl,bh rfl trivial⟩
    ·(unfold fv bM;generalize List.flatMap cv _=cg;cases cg<;>rfl)
    ·(unfold fv bM;generalize List.flatMap cv _=cg;cases cg<;>rfl)
    ·(unfold fv bM;generalize List.flatMap cv _=cg;cases cg<;>rfl)
  ·rw[hb1] at hrr
   simp only[Z3e,if_true]
   repeat'(first|refine y1 ?_|refine y2 ?_ ?_|refine y4 λh=>?_|(refine wX ?_;refine ji [0] 0 hpa ?_ (hle:=by exact⟨ah _,bB (congrArg nI (by push_cast;rfl)),trivial⟩))|(refine wX ?_;refine ji [0,5] 0 hrs ?_ (hvw:=λφ w b=>nH))|refine wX (ji [0] 0 hrr ?_)|refine gG [.val (hY (T.getD i z0))] rfl rfl ?_ rfl ?_|refine y3 ?_|exact y5|fail)
   all_goals try (rw[hcat,hse];exact im aa)
   refine⟨.inl rfl,.tup [],[6,7],dd _,uI rfl ?_ rfl ?_ rfl ?_ ?_⟩
   ·exact⟨rfl,rfl,rfl,bh rfl trivial⟩
   ·(unfold fv bM;generalize List.flatMap cv _=cg;cases cg<;>rfl)
   ·(unfold fv bM;generalize List.flatMap cv _=cg;cases cg<;>rfl)
   ·(unfold fv bM;generalize List.flatMap cv _=cg;cases cg<;>rfl)
def am:Fo->Fo
 | .nil=> .nil
 | .cons _ k .nil=>k
 | .cons _ _ n=>am n
theorem aV {c':Int}:∀ (ls:List Int) (t:Fo),(ls.all eI)=true->t.V (ls.map (λc=>(false,c))++[(true,c')])->∃ b,t.size=ls.length+1+(am t).size/\∀ (p:List Nd) (i:Nat),t.At p i->(Fo.cons b (am t) .nil).At p (i+ls.length)/\(Fo.cons b (am t) .nil).V [(true,c')]
 |[],t,_,h=>by
  obtain⟨y,bl,n,rfl,h1,h2,h3⟩:=jY h;have:=iE h1;subst this;exact⟨y,by simp only[Fo.size,Z0e,am];omega,λp i ha=>⟨ha,h⟩⟩
 |c::ls,t,hl,h=>by
  simp only[Z1b,Z07] at hl;obtain⟨y,n,rfl,h1,h2⟩:=eN hl.1 h;obtain⟨b,g3,g1⟩:=aV ls n hl.2 h1
  have hn:am (.cons y .nil n)=am n:=by
   cases n with
   |nil=>simp only[Fo.size] at g3;omega
   |cons a b c=>rfl
  rw[hn];refine⟨b,by simp only[Fo.size,Z04];omega,λp i ha=>?_⟩;have:=g1 p (i+1) (by simpa [Fo.size] using ha.2.2.2)
  grind
def ja (p:List Nd) (F:List (By×Nat)) (sc:Pth) (k:Fo) (i:Nat) (G:List (Nat×Nat)):List (Nat×Nat):=
 if (p.getD i dN).op=50\/(p.getD i dN).op=51 then (if aj p (i+1)<(p.getD (i+2) dN).kids then G++[(i,5)] else G)
 else if (p.getD i dN).op=16 then iT p F sc (am k) i G
 else if (p.getD i dN).op=17 then (if ef p F 18 (aS sc (ai (p.getD (i+1) dN).str).1)<0\/ef p F 18 (aS sc (ai (p.getD (i+2) dN).str).1)<0 then G++[(i,6)] else G)
 else if (p.getD i dN).op=14 then ov p (am k) i G
 else G
theorem DU (p:List Nd) (hp:p.length<=2048) (hw:oh p) (hI:li p) (hn:∀ j,j<p.length->kN p j) (nD:Nat) (T:List Pth) (hT:T.length=p.length) (hTl:∀ q∈T,q.segs.length<=1000000) (F:List (By×Nat)) (hF:∀ x∈F,x.2<p.length)
 (i:Nat) (x:Nd) (k:Fo) (sl:Bool×Int) (G:List (Nat×Nat)) (ha:(Fo.cons x k .nil).At p i) (hv:(Fo.cons x k .nil).V [sl]) (hG:G.length+4*2048<=1000000000):
 FQ 118 [.s (.ptr (some (0,0))),nI i] 8 (uP p nD T F G) .any 10 (fv p nD T F (ja p F (T.getD i z0) k i G)):=by
 have hi:=At.lt ha;have hx:=At.get ha;have hsz:=At.size_le (Z1k hi) ha;simp only[Fo.size] at hsz;have hse:(Tryz.prog.types[99]).size=3:=aK
 have hcat:bU 0 (bQ i (Tryz.prog.types[99]).size)=i*3:=by rw[hse,ak,ao,Z0c]
 have hTg:(T.getD i z0).segs.length<=1000000:=hTl _ ae
 have hkk:∀ op,op≠4->x.op=op->k.V (dB (av x.op x.kids).1):=by
  intro op h4 ho;obtain⟨b,c⟩:=sl;cases b
  ·exact hv.2.1
  ·exact absurd (ho.symm.trans hv.1.1) h4
 have k2:fg 8 (uP p nD T F G)=true:=by unfold uP bM;generalize List.flatMap cv _=cg;cases cg<;>rfl
 unfold ja;refine wW Tryz.func118 ?_;by_cases h50:(p.getD i dN).op=50\/(p.getD i dN).op=51
 ·rw[if_pos h50]
  have hbl:∃ (K:Nat),(p.getD (i+2) dN).kids=(K:Int)/\i+2<p.length/\K<=2048:=by
   rcases h50 with h|h
   ·have h1:=hkk 50 ac (hx▸h)
    rw[show x.op=50 from hx▸h] at h1;obtain⟨b,g1,g2⟩:=aV [105] k rfl h1;have g3:=(g2 p (i+1) ha.2.2.1).1;have:=Fo.cnt_le (am k);exact⟨(am k).cnt,(congrArg Nd.kids (At.get g3)).trans g3.2.1,At.lt g3,aa⟩
   ·have h1:=hkk 51 ac (hx▸h)
    rw[show x.op=51 from hx▸h] at h1;obtain⟨b,g1,g2⟩:=aV [105] k rfl h1;have g3:=(g2 p (i+1) ha.2.2.1).1;have:=Fo.cnt_le (am k);exact⟨(am k).cnt,(congrArg Nd.kids (At.get g3)).trans g3.2.1,At.lt g3,aa⟩
  obtain⟨K,hK,hi2,hK2⟩:=hbl;have A1:=aU (z:=(p.getD (i+2) dN).kids) aa aa;have hi1:i+1<p.length:=aa;by_cases hlt:aj p (i+1)<(p.getD (i+2) dN).kids
  ·rw[if_pos hlt]
   repeat'(first|refine yA ?_|refine y2 ?_ ?_|(refine y4 λh=>?_;try(first|(exact absurd hlt (by assumption))|exact y6))|(refine wX ?_;refine kF [0,1,2,3,4,5,6,7] (dh p nD G i 5 aa) rfl (bS rfl rfl rfl) rfl rfl rfl aP pi rfl rfl (wr:=[(0,some (fJ p 3 nD 9 (G.length+1))),(6,none),(9,bM 9 (G++[(i,5)]))]) (by show [_,_,_]=_;rw[az];rfl) ?_)|exact y5|fail)
   all_goals
    unfold fv;rw[Z03,Z0n];refine⟨.inr rfl,.tup [],[9,10],dd _,fY rfl ?_ rfl ?_ rfl rfl⟩
    ·exact⟨rfl,rfl,rfl,bh rfl trivial⟩
    ·((try unfold fv);unfold bM;generalize List.flatMap cv _=cg;cases cg<;>rfl)
  ·rw[if_neg hlt]
   repeat'(first|refine yA ?_|refine y2 ?_ ?_|(refine y4 λh=>?_;try(first|(exact absurd (by assumption) hlt)|exact y6))|exact y5|fail)
   all_goals
    refine⟨.inr rfl,.tup [],[6,7],dd _,uI rfl ?_ rfl ?_ rfl ?_ ?_⟩
    ·exact⟨rfl,rfl,rfl,bh rfl trivial⟩
    ·((try unfold fv);unfold bM;generalize List.flatMap cv _=cg;cases cg<;>rfl)
    ·((try unfold fv);unfold bM;generalize List.flatMap cv _=cg;cases cg<;>rfl)
    ·((try unfold fv);unfold bM;generalize List.flatMap cv _=cg;cases cg<;>rfl)
 ·rw[if_neg h50]
  by_cases h16:(p.getD i dN).op=16
  ·rw[if_pos h16]
   have h1:=hkk 16 ac (hx▸h16);rw[show x.op=16 from hx▸h16] at h1;obtain⟨b,g1,g2⟩:=aV [110,105,105] k rfl h1;obtain⟨g3,g4⟩:=g2 p (i+1) ha.2.2.1;have hfi:=HZ p hp hw hI hn nD T hT hTl F hF i h16 b (am k) G g3 g4 hG;generalize iT p F (T.getD i z0) (am k) i G=G' at*
   repeat'(first|refine yA ?_|refine y2 ?_ ?_|refine y4 λh=>?_|(refine wX ?_;refine jX [0,1,2,3,4,5,6,7] hfi ?_ (wr:=[(0,some (fJ p 3 nD 9 G'.length)),(1,some (qU T)),(5,some (cF F)),(6,none),(9,bM 9 G')]) (k2:=k2))|exact y5|fail)
   all_goals
    refine⟨.inr rfl,.tup [],[9,10],dd _,fY rfl ?_ rfl ?_ rfl rfl⟩
    ·exact⟨rfl,rfl,rfl,bh rfl trivial⟩
    ·((try unfold fv);unfold bM;generalize List.flatMap cv _=cg;cases cg<;>rfl)
  ·rw[if_neg h16]
   by_cases h17:(p.getD i dN).op=17
   ·rw[if_pos h17]
    have h1:=hkk 17 ac (hx▸h17);rw[show x.op=17 from hx▸h17] at h1;obtain⟨b,g1,g2⟩:=aV [110,110,105,105] k rfl h1;simp only[Z04,Z0e] at g1;have hpa:=lH p hw (i+1) aa;have hpb:=lH p hw (i+2) aa;have hra:=mK p hp F hF (T.getD i z0) (ai (p.getD (i+1) dN).str).1 hTg 18;have hrb:=mK p hp F hF (T.getD i z0) (ai (p.getD (i+2) dN).str).1 hTg 18;generalize ef p F 18 (aS (T.getD i z0) (ai (p.getD (i+1) dN).str).1)=ra at*;generalize ef p F 18 (aS (T.getD i z0) (ai (p.getD (i+2) dN).str).1)=rb at*;by_cases hlt:ra<0\/rb<0
    ·rw[if_pos hlt]
     repeat'(first|refine y1 ?_|refine y2 ?_ ?_|refine y4 λh=>?_|(refine wX ?_;refine ji [0] 0 hpa ?_ (hle:=by exact⟨ah _,bB (congrArg nI (by push_cast;rfl)),trivial⟩))|(refine wX ?_;refine ji [0] 0 hpb ?_ (hle:=by exact⟨ah _,bB (congrArg nI (by push_cast;rfl)),trivial⟩))|(refine wX ?_;refine ji [0,5] 0 hra ?_ (hvw:=λφ w b=>nH))|(refine wX ?_;refine ji [0,5] 0 hrb ?_ (hvw:=λφ w b=>nH))|(refine wX ?_;refine kF [0,1,2,3,4,5,6,7] (dh p nD G i 6 aa) rfl (bS rfl rfl rfl) rfl rfl rfl aP pi rfl rfl (wr:=[(0,some (fJ p 3 nD 9 (G.length+1))),(6,none),(9,bM 9 (G++[(i,6)]))]) (by show [_,_,_]=_;rw[az];rfl) ?_)|refine gG [.val (hY (T.getD i z0))] rfl rfl ?_ rfl ?_|refine y3 ?_|exact y5|fail)
     all_goals try (rw[hcat,hse];exact im aa)
     all_goals
      unfold fv;rw[Z03,Z0n];refine⟨.inr rfl,.tup [],[9,10],dd _,fY rfl ?_ rfl ?_ rfl rfl⟩
      ·exact⟨rfl,rfl,rfl,bh rfl trivial⟩
      ·((try unfold fv);unfold bM;generalize List.flatMap cv _=cg;cases cg<;>rfl)
    ·rw[if_neg hlt]
     repeat'(first|refine y1 ?_|refine y2 ?_ ?_|refine y4 λh=>?_|(refine wX ?_;refine ji [0] 0 hpa ?_ (hle:=by exact⟨ah _,bB (congrArg nI (by push_cast;rfl)),trivial⟩))|(refine wX ?_;refine ji [0] 0 hpb ?_ (hle:=by exact⟨ah _,bB (congrArg nI (by push_cast;rfl)),trivial⟩))|(refine wX ?_;refine ji [0,5] 0 hra ?_ (hvw:=λφ w b=>nH))|(refine wX ?_;refine ji [0,5] 0 hrb ?_ (hvw:=λφ w b=>nH))|refine gG [.val (hY (T.getD i z0))] rfl rfl ?_ rfl ?_|refine y3 ?_|exact y5|fail)
     all_goals try (rw[hcat,hse];exact im aa)
     all_goals
      refine⟨.inr rfl,.tup [],[6,7],dd _,uI rfl ?_ rfl ?_ rfl ?_ ?_⟩
      ·exact⟨rfl,rfl,rfl,bh rfl trivial⟩
      ·((try unfold fv);unfold bM;generalize List.flatMap cv _=cg;cases cg<;>rfl)
      ·((try unfold fv);unfold bM;generalize List.flatMap cv _=cg;cases cg<;>rfl)
      ·((try unfold fv);unfold bM;generalize List.flatMap cv _=cg;cases cg<;>rfl)
   ·rw[if_neg h17]
    by_cases h14:(p.getD i dN).op=14
    ·rw[if_pos h14]
     have h1:=hkk 14 ac (hx▸h14);rw[show x.op=14 from hx▸h14] at h1;obtain⟨b,g1,g2⟩:=aV [115,105,105,105] k rfl h1;obtain⟨g3,g4⟩:=g2 p (i+1) ha.2.2.1;simp only[Z04,Z0e] at g1;have he:=At.ends1 ha;rw[show i+1+k.size=i+6+(am k).size by omega] at he;have hme:=L5 p hp nD i b (am k) G he g3 g4 hG;generalize ov p (am k) i G=G' at*
     repeat'(first|refine yA ?_|refine y2 ?_ ?_|refine y4 λh=>?_|(refine wX ?_;refine kF [0,1,2,3,4,5,6,7] hme rfl (bS rfl rfl rfl) rfl rfl rfl aP pi rfl rfl (wr:=[(0,some (fJ p 3 nD 9 G'.length)),(6,none),(9,bM 9 G')]) (by show [_,_,_]=_;rw[az];rfl) ?_)|exact y5|fail)
     all_goals
      refine⟨.inr rfl,.tup [],[9,10],dd _,fY rfl ?_ rfl ?_ rfl rfl⟩
      ·exact⟨rfl,rfl,rfl,bh rfl trivial⟩
      ·((try unfold fv);unfold bM;generalize List.flatMap cv _=cg;cases cg<;>rfl)
    ·rw[if_neg h14]
     repeat'(first|refine yA ?_|refine y2 ?_ ?_|refine y4 λh=>?_|exact y5|fail)
     all_goals
      refine⟨.inr rfl,.tup [],[6,7],dd _,uI rfl ?_ rfl ?_ rfl ?_ ?_⟩
      ·exact⟨rfl,rfl,rfl,bh rfl trivial⟩
      ·((try unfold fv);unfold bM;generalize List.flatMap cv _=cg;cases cg<;>rfl)
      ·((try unfold fv);unfold bM;generalize List.flatMap cv _=cg;cases cg<;>rfl)
      ·((try unfold fv);unfold bM;generalize List.flatMap cv _=cg;cases cg<;>rfl)
section
variable {i n:Nat} {s:St} {p:List Nd}
def Fo.kid:Fo->Nat->Nat->Fo
 | .nil,_,_=> .nil
 | .cons _ k n,j,i=>if i=j then k else if i<j+1+k.size then k.kid (j+1) i else n.kid (j+1+k.size) i
theorem cM {p:List Nd}:∀ {t:Fo} {j:Nat} {cs:List (Bool×Int)} {i:Nat},t.At p j->t.V cs->j<=i->i<j+t.size->∃ sl,(Fo.cons (p.getD i dN) (t.kid j i) .nil).At p i/\(Fo.cons (p.getD i dN) (t.kid j i) .nil).V [sl]
 | .nil,j,cs,i,_,_,h1,h2=>by simp only[Fo.size] at h2;omega
 | .cons x k n,j,cs,i,ha,hv,h1,h2=>by
   simp only[Fo.size] at h2;have hx:=At.get ha
   obtain⟨sl,cs',rfl,hv1,hv2,hvk⟩:∃ sl cs',cs=sl::cs'/\(Fo.cons x k .nil).V [sl]/\n.V cs'/\∃ cs2,k.V cs2:=by
    match cs,hv with
    |(true,c)::cs',⟨h1,h2,h3⟩=>exact⟨_,_,rfl,⟨h1,h2,trivial⟩,h3,_,h2⟩
    |(false,c)::cs',⟨h1,h2,h3⟩=>exact⟨_,_,rfl,⟨h1,h2,trivial⟩,h3,_,h2⟩
   unfold Fo.kid;by_cases e:i=j
   ·subst e
    rw[if_pos rfl,hx];exact⟨sl,⟨ha.1,ha.2.1,ha.2.2.1,trivial⟩,hv1⟩
   ·rw[if_neg e]
    by_cases e2:i<j+1+k.size
    ·rw[if_pos e2]
     obtain⟨cs2,hk⟩:=hvk;exact cM ha.2.2.1 hk aa aa
    ·rw[if_neg e2]
     exact cM ha.2.2.2 hv2 aa aa
theorem yn {k:Fo} {sl:Bool×Int} (ha:(Fo.cons (p.getD i dN) k .nil).At p i) (hv:(Fo.cons (p.getD i dN) k .nil).V [sl]):kN p i:=by
 have hi:=At.lt ha;have hsz:=At.size_le (Z1k hi) ha;have hc:=Fo.cnt_le k;simp only[Fo.size] at hsz;obtain⟨b,c⟩:=sl
 have hk:∀ op,op≠4->(p.getD i dN).op=op->k.V (dB (av op (p.getD i dN).kids).1):=by
  intro op h4 ho;cases b
  ·have:=hv.2.1;rwa [ho] at this
  ·exact absurd (ho.symm.trans hv.1.1) h4
 refine⟨hi,?_,?_,?_,?_,?_⟩
 ·rintro (e|e|e)
  ·have:k.cnt=5:=Fo.V_cnt (hk _ ac e);omega
  ·have:k.cnt=4:=Fo.V_cnt (hk _ ac e);omega
  ·have:k.cnt=5:=Fo.V_cnt (hk _ ac e);omega
 ·rintro (e|e)
  ·have:k.cnt=4:=Fo.V_cnt (hk _ ac e);omega
  ·have:k.cnt=4:=Fo.V_cnt (hk _ ac e);omega
 ·rintro (e|e|e|e)
  ·have:k.cnt=2:=Fo.V_cnt (hk _ ac e);omega
  ·have:k.cnt=2:=Fo.V_cnt (hk _ ac e);omega
  ·have:k.cnt=2:=Fo.V_cnt (hk _ ac e);omega
  ·have:k.cnt=2:=Fo.V_cnt (hk _ ac e);omega
 ·rintro (e|e)
  ·have:k.cnt=1:=Fo.V_cnt (hk _ ac e);omega
  ·have:k.cnt=2:=Fo.V_cnt (hk _ ac e);omega
 ·intro e
  obtain⟨b',bl,g1,g2,g3⟩:=sn [105] k (i+1) rfl (hk _ ac e) ha.2.2.1;have:=At.get g1;have hs:=At.size_le (Z1k (At.lt g1)) g1;have hb:=Fo.cnt_le bl;simp only[Fo.size] at hs;refine⟨bl.cnt,?_,?_⟩
  ·exact (congrArg Nd.kids this).trans g1.2.1
  all_goals grind
theorem BY {b r:Pth}:(ax b r).1.segs.length<=32:=by
 unfold ax;split
 ·simp[z0]
 ·rename_i h
  split
  ·grind [aG]
  ·split
   ·simp[z0]
   ·simp;omega
def SOK (n:Nat) (s:St):Prop:=(∀ q∈s.S,q.segs.length<=32)/\(∀ x∈s.F,x.2<n)
theorem SOK.sc (h:SOK n s) (i:Nat) {sc:Pth} (hs:sc.segs.length<=32):SOK n (s.sc i sc):=
 ⟨λq hq=>(Z33 hq).elim (h.1 q) (λe=>e▸hs),h.2⟩
theorem SOK.rep (h:SOK n s) (i c:Nat):SOK n (s.rep i c):=h
theorem SOK.dec (h:SOK n s) (hi:i<n) (path:By) (op:Int):SOK n (s.dec i path op):=by
 refine⟨h.1,λx hx=>?_⟩;simp only[St.dec,rm] at hx;split at hx
 ·exact h.2 x hx
 ·rcases Z0w.1 hx with hx|hx
  ·exact h.2 x hx
  all_goals grind
theorem SOK.head (h:SOK n s) (hi:i<n) (x:Nd) (nm:Pth) {sc:Pth} (hs:sc.segs.length<=32):SOK n (cN x nm i sc s).2/\(cN x nm i sc s).1.segs.length<=32:=by
 have hj:=BY (b:=sc) (r:=nm);unfold cN;split
 ·split
  ·exact⟨h.sc i hs,hj⟩
  ·exact⟨(h.sc i hs).rep i 2,hs⟩
 ·split
  ·exact⟨h.sc i hs,hs⟩
  ·split
   ·refine⟨(h.sc i hs).dec hi _ _,?_⟩
    grind
   ·exact⟨(h.sc i hs).rep i 2,hs⟩
theorem SOK.decl {p:List Nd}:∀ (m:Bool) (t:Fo) (i:Nat) (sc:Pth) (s:St),t.At p i->sc.segs.length<=32->SOK p.length s->SOK p.length (bn m t i sc s)
 |m,.nil,i,sc,s,_,_,h=>by cases m<;>exact h
 |true,.cons x k n,i,sc,s,ha,hs,h=>by
  simp only[bn];split
  ·exact SOK.decl false k (i+1) sc s ha.2.2.1 hs h
  ·exact SOK.decl true n _ sc s ha.2.2.2 hs h
 |false,.cons x k n,i,sc,s,ha,hs,h=>by
  simp only[bn];have hh:=h.head (At.lt ha) x (aw k) hs;refine SOK.decl false n _ sc _ ha.2.2.2 hs ?_;split
  ·exact SOK.decl true k _ _ _ ha.2.2.1 hh.2 hh.1
  ·exact hh.1
theorem SOK.anS {t:Fo} (ha:t.At p 0):SOK p.length (anS p t):=
 SOK.decl false t 0 _ _ ha aq ⟨λq hq=>by rw[(Z3b.1 hq).2];simp[z0],λx hx=>by cases hx⟩
theorem nT:∀ t:Fo,(am t).size<=t.size
 | .nil=>Z02 _
 | .cons _ k .nil=>by simp only[am,Fo.size];omega
 | .cons _ _ (.cons x k n)=>by
   have:=nT (.cons x k n)
   grind [am,Fo.size]
theorem mO (hp:p.length<=2048) {F:List (By×Nat)} {sc:Pth} {k:Fo} {sl:Bool×Int} {G:List (Nat×Nat)} (ha:(Fo.cons (p.getD i dN) k .nil).At p i) (hv:(Fo.cons (p.getD i dN) k .nil).V [sl]):
 (ja p F sc k i G).length<=G.length+3*2048:=by
 have hsz:=At.size_le (Z1k (At.lt ha)) ha;simp only[Fo.size] at hsz;have hl:=nT k;unfold ja;split
 ·grind
 ·split
  ·unfold iT
   split
   ·simp
   ·split
    ·simp
    ·refine Z1z (kQ _ _ _ _ _ _ _) ?_
     omega
  all_goals grind [ov,qG,fp]
def lD (p:List Nd) (F:List (By×Nat)) (T:List Pth) (t:Fo):Nat->Nat->List (Nat×Nat)->List (Nat×Nat)
 |0,_,G=>G
 |c+1,i,G=>lD p F T t c (i+1) (ja p F (T.getD i z0) (t.kid 0 i) i (if aN p i then G++[(i,4)] else G))
end
