import Derived.Test.YtegjgpldfgjoiaaGreatDoorCnJ39
import Derived.Test.YtegjgpldfgjoiaaGreatDoorCnJ38
set_option linter.all false
set_option maxHeartbeats 40000000
set_option maxRecDepth 100000
namespace Go.Proofs.YtegjgpldfgjoiaaGreatDoor
open Go Ab
def g_ (p:List Nd) (c:Nat):Int:=if (p.getD c dN).op=18 then aj p (c+2) else aj p (c+1)
structure Sp where
 b:Int
 bit:Int
 len:Int
 f:Bool
def dP (p:List Nd) (u:Int):List Nat->Sp->Sp
 |[],s=>s
 |c::cs,s=>dP p u cs (if (c:Int)=u then ⟨s.b+g_ p c,s.b,g_ p c,true⟩ else {s with b:=s.b+g_ p c})
structure RegR (O:List Ro) (T:List Rt) (a sp ba ln:Int):Prop where
 at_:∃ (y:Ent) (j nd:Nat),fu a O=some y/\jo y.tab 0 T=(j:Int)/\j<T.length/\y.node=nd/\(nd+4<(T.getD j dT).2.length/\nd<=4096)/\sp=((T.getD j dT).2.getD (nd+2) dN).int/\ba=((T.getD j dT).2.getD (nd+3) dN).int/\ln=((T.getD j dT).2.getD (nd+4) dN).int
 s0:0<=sp
 s1:sp<=1000
abbrev rsX (O:List Ro) (T:List Rt) (nl:Nat) (nx nh:Int):Hp:=[(0,some (qV O.length T.length nl nx nh)),(1,some (CF O)),(3,some (Lc 3 T))]
abbrev HU (sp ba ln bit len wid upd idx dat:Int):List S:=[.int .i64 sp,.int .u64 ba,.int .u64 ln,.int .i64 bit,.int .i64 len,.int .i64 wid,.int .i64 upd,.int .i64 idx,.int .i64 dat]
abbrev Mh (sp ba ln bit len wid upd idx dat:Int):Bl:={cells:=HU sp ba ln bit len wid upd idx dat,ty:=84}
def uX (bits wid:Int):Int:=(bits+8*wid-1).tdiv (8*wid)*wid
def Gq (p:List Nd) (x:Rk) (us:List Nat) (wid upd sp ba ln u:Int):List S:=
 if 0<=x.b then HU 0 0 (uX (dP p u us ⟨0,0,0,false⟩).b wid) (dP p u us ⟨0,0,0,false⟩).bit (dP p u us ⟨0,0,0,false⟩).len wid upd x.a x.b
 else HU sp ba ln (dP p u us ⟨0,0,0,false⟩).bit (dP p u us ⟨0,0,0,false⟩).len wid upd (-1) (-1)
structure FdR (p:List Nd) (x:Rk) (us:List Nat) (wid upd:Int):Prop where
 at_:∃ (i blk:Nat) (ks:List Nat),x.nd=i/\FQ 105 [al p,nI i] 0 [] (.s (eQ ks)) 0 []/\FQ 105 [al p,nI blk] 0 [] (.s (eQ us)) 0 []/\blk<p.length/\blk=i+4+(if 0<=x.b then 1 else 0)/\
  ks=(if 0<=x.b then [i+1,i+2,i+3,i+4,i+5] else [i+1,i+2,i+3,i+4])/\wid=aj p (blk-2)/\upd=aj p (blk-1)
 un:us.length<=2048
 uk:∀ c∈us,c+1<p.length/\((p.getD c dN).op=18->c+2<p.length)/\(0<=g_ p c/\g_ p c<=8388608)/\IntKind.i64.wrap (p.getD (c+1) dN).int=(p.getD (c+1) dN).int
 w0:1<=wid
 w1:wid<=8
 u0:0<=upd
 u1:upd<=2
 b0:x.b= -1\/0<=x.b
theorem C8 (p:List Nd) (hp:p.length<=2048) (O:List Ro) (T:List Rt) (nl:Nat) (nx nh:Int) (hO:O.length<=100000) (h0:0<O.length) (hT:T.length<=100000) (x:Rk) (us:List Nat) (wid upd sp ba ln u:Int) (hf:FdR p x us wid upd) (hr:x.b= -1->RegR O T x.a sp ba ln):
 FQ 134 [.s (.ptr (some (0,0))),al p,.agg (kH x),nI u] 7 (rsX O T nl nx nh) (.tup [.agg (Gq p x us wid upd sp ba ln u),.s (.bool (dP p u us ⟨0,0,0,false⟩).f)]) 7 (rsX O T nl nx nh):=by
 obtain⟨⟨i,blk,ks,e1,hk1,hk2,e2,e3,e4,e5,e6⟩,hun,huk,w0,w1,u0,u1,hb0⟩:=hf;obtain⟨xt,xn,xa,xb⟩:=x;simp only at e1 e3 e4 hr hb0;subst e1;unfold Gq;simp only;generalize hS:dP p u us ⟨0,0,0,false⟩=S;have wv:IntKind.i64.wrap wid=wid:=aB aa aa;have uv:IntKind.i64.wrap upd=upd:=aB aa aa;rw[show kH ⟨xt,i,xa,xb⟩=[.int .i64 xt,.int .i64 (i:Int),.int .i64 xa,.int .i64 xb] from rfl];refine wW Tryz.func134 ?_
 have hbb:xb= -1/\(blk=i+4/\ks=[i+1,i+2,i+3,i+4])\/0<=xb/\(blk=i+5/\ks=[i+1,i+2,i+3,i+4,i+5]):=by
  rcases hb0 with rfl|hb0
  ·rw[if_neg ac] at e3 e4;exact .inl ⟨rfl,e3,e4⟩
  ·rw[if_pos hb0] at e3 e4;exact .inr ⟨hb0,e3,e4⟩
 clear e3 e4 hb0
 rcases hbb with ⟨hxb,rfl,rfl⟩|⟨hxb,rfl,rfl⟩
 all_goals
  first
   |replace e5:wid=(p.getD (i+2) dN).int:=e5
   |replace e5:wid=(p.getD (i+3) dN).int:=e5
  first
   |replace e6:upd=(p.getD (i+3) dN).int:=e6
   |replace e6:upd=(p.getD (i+4) dN).int:=e6
  rw[e5] at wv;rw[e6] at uv
  repeat'(first|refine yA ?_|refine y2 ?_ ?_|refine y4 λh=>?_|refine an hk1 ?_|refine an hk2 ?_|exact y5|fail)
  all_goals try first
   |exact wv
   |exact uv
   |(simp only[Z04,Z0e,Z27,Z34];omega)
  refine my [0,1,2,3,4,5,6,7,8,9] 177 [(0,.s (.ptr (some (0,0)))),(1,al p),(3,nI u),(6,.s (.ptr (some (7,0)))),(8,.s (.ptr (some (8,0)))),(12,.s (.ptr (some (9,0)))),(13,nI 0),(14,bV false),(15,.s (eQ us)),(16,nI 0)] [(0,some (qV O.length T.length nl nx nh)),(1,some (CF O)),(3,some (Lc 3 T)),(7,some {cells:=[.int .i64 xt,.int .i64 (i:Int),.int .i64 xa,.int .i64 xb],ty:=143}),(8,some (Mh 0 0 0 0 0 0 0 0 0)),(9,some (Mh 0 0 0 0 0 wid upd (-1) (-1)))] rfl rfl ⟨ah _,ah _,ah _,ah _,ah _,ah _,ah _,ah _,ah _,ah _,trivial⟩ ⟨rfl,rfl,rfl,rfl,rfl,?_,trivial⟩ rfl ?_
  ·rw[e5,e6];rfl
  refine cy (σ:=Nat×Sp) (λq=>[(13,nI q.2.b),(14,bV q.2.f),(16,nI q.1)]) (λq=>[(0,some (qV O.length T.length nl nx nh)),(1,some (CF O)),(3,some (Lc 3 T)),(7,some {cells:=[.int .i64 xt,.int .i64 (i:Int),.int .i64 xa,.int .i64 xb],ty:=143}),(8,some (Mh 0 0 0 0 0 0 0 0 0)),(9,some (Mh 0 0 0 q.2.bit q.2.len wid upd (-1) (-1)))])
   (λq=>q.1<=us.length/\dP p u (us.drop q.1) q.2=S/\0<=q.2.b/\q.2.b<=8388608*q.1) (λq=>us.length-q.1) (0,⟨0,0,0,false⟩) rfl (λ_=>rfl) ⟨Z08 _,hS,Z2l _,Z2l _⟩ aP ⟨rfl,rfl,rfl,rfl,rfl,rfl,trivial⟩ ?_
  clear hS;rintro⟨j,b,bit,len,f⟩ ⟨j1,j2,j3,j4⟩;simp only at j1 j2 j3 j4 |-;by_cases hj:j<us.length
  ·have hd:us.drop j=us.getD j 0::us.drop (j+1):=by rw[Z0k hj,Z00,Z01 hj];rfl
   obtain⟨g1,g2,⟨g3,g4⟩,g5⟩:=huk (us.getD j 0) (by rw[Z00,Z01 hj];exact Z0s hj);rw[hd,dP] at j2
   have hz:(p.getD (us.getD j 0) dN).op=18/\us.getD j 0+2<p.length/\g_ p (us.getD j 0)=(p.getD (us.getD j 0+2) dN).int\/ ¬(p.getD (us.getD j 0) dN).op=18/\True/\g_ p (us.getD j 0)=(p.getD (us.getD j 0+1) dN).int:=by
    unfold g_;by_cases ho:(p.getD (us.getD j 0) dN).op=18
    ·exact .inl ⟨ho,g2 ho,if_pos ho⟩
    ·exact .inr ⟨ho,Z0o,if_neg ho⟩
   rcases hz with ⟨ho,g2,hz⟩|⟨ho,g2,hz⟩<;>by_cases hu:((us.getD j 0:Nat):Int)=u
   all_goals
    have g6:IntKind.i64.wrap (g_ p (us.getD j 0))=g_ p (us.getD j 0):=aB aa aa;have g7:IntKind.i64.wrap (b+g_ p (us.getD j 0))=b+g_ p (us.getD j 0):=aB aa aa;rw[hz] at j2 g3 g4 g6 g7
    first
     |rw[if_pos hu] at j2
     |rw[if_neg hu] at j2
    repeat'(first|refine yA ?_|refine y2 ?_ ?_|refine y4 λh=>?_|exact y5|fail)
    refine dz (j+1,_) ⟨hj,j2,?_,?_⟩ (by simp only;omega) rfl ⟨ah _,ah _,bB (congrArg nI (by push_cast;rfl)),trivial⟩ ⟨rfl,rfl,rfl,rfl,rfl,rfl,trivial⟩ rfl rfl ac
    ·simp only;omega
    ·simp only;push_cast;omega
  ·rw[Z10 aa,dP] at j2
   subst j2;simp only;by_cases hc:xb= -1
   ·obtain⟨⟨y,j',nd,r1,r2,r3,r4,⟨r5,r5'⟩,r6,r7,r8⟩,s0,s1⟩:=hr hc
    rw[if_neg aa];have hob:=lK O T.length nl nx nh xa (some y) r1 hO h0;rw[Z22] at hob;obtain⟨v1,v2,v3,v4,v5,c1,c2,c3,c4,c5,c6,c7,c8,c9⟩:=y;simp only at r2 r4;subst r4;have hz2:(Tryz.prog.types[145]).size=2:=aK;have wsp:IntKind.i64.wrap sp=sp:=aB aa aa
    cases T with
    |nil=>exact absurd r3 (Z1m _)
    |cons t0 tt=>
     have htn:=zP O.length nl nx nh t0 tt v4 hT;rw[r2] at htn;have hq:((t0::tt).flatMap rG)[j'*2+1]? =some (.frz (λk=>ndC (((t0::tt).getD j' dT).2.getD k dN)) 4 ((t0::tt).getD j' dT).2.length):=xU r3 rfl;rw[r6] at wsp;subst r6;subst r7;subst r8;generalize (t0::tt).getD j' dT=tq at*;obtain⟨tn,q⟩:=tq;simp only at hq r5 wsp s0 s1 |-
     repeat'(first|refine Ex.celR 24 0 1 (s':=.sla 3 4 (tt.length+1)) rfl rfl (SLe.rowsla (Z1n _)) rfl ?_|refine Ex.celR 26 0 1 (s':=.row 3 4 (tt.length+1)) rfl rfl (SLe.slarow (Z1n _)) rfl ?_|refine y1 ?_|refine y2 ?_ ?_|refine y4 λh=>?_|refine wX (bD [0,1,2,3,4,5,6] hob ?_)|refine wX (bD [0,1,2,3,4,5,6] htn ?_)|refine gG [.val (al q)] rfl rfl (by rw[hz2,ak,ak,ao,Z0c];exact cD rfl hq) rfl ?_|refine y3 ?_|exact y5|fail)
     all_goals first
      |(show IntKind.i64.wrap ((nd:Int)+2)=(nd:Int)+2;exact aB aa aa)
      |(show IntKind.i64.wrap ((nd:Int)+3)=(nd:Int)+3;exact aB aa aa)
      |(show IntKind.i64.wrap ((nd:Int)+4)=(nd:Int)+4;exact aB aa aa)
      |exact bK
   ·rw[if_pos aa]
    have hq:∀ q:Int,0<=q->q<=68719476736->0<=q*wid/\q*wid<=549755813888:=λq h1 h2=>⟨Z5y h1 aa,Int.le_trans (Int.mul_le_mul h2 w1 aa aa) ac⟩
    have q1:0<=(b+8*wid-1).tdiv (8*wid):=Z5r aa aa;have q2:(b+8*wid-1).tdiv (8*wid)<=b+8*wid-1:=Z5l _ aa;have q3:=hq _ q1 aa;unfold uX;generalize hQ:(b+8*wid-1).tdiv (8*wid)=Q at*
    repeat'(first|refine yA ?_|refine y2 ?_ ?_|refine y4 λh=>?_|exact y5|fail)
    all_goals try first
     |(rw[hQ];exact aB aa aa)
     |(rw[hQ];exact aU aa aa)
    all_goals rw[<-hQ]
    all_goals exact bK
