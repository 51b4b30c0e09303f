import Derived.Test.YtegjgpldfgjoiaaGreatDoorCnJ36
import Derived.Test.YtegjgpldfgjoiaaGreatDoorCnJ27
import Derived.Test.YtegjgpldfgjoiaaGreatDoorCnJ35
import Derived.Test.YtegjgpldfgjoiaaGreatDoorCnJ34
set_option linter.all false
set_option maxHeartbeats 40000000
set_option maxRecDepth 100000
namespace Go.Proofs.YtegjgpldfgjoiaaGreatDoor
open Go Ab
section
variable {p:List Nd} {t:Fo} {cs:List (Bool×Int)}
def qS (p:List Nd) (i:Nat):Bool:=decide ((p.getD i dN).op=50\/(p.getD i dN).op=51)&&decide (aj p (i+1)<(p.getD (i+2) dN).kids)
theorem HD (ha:t.At p 0) (hv:t.V cs) {i:Nat} (hi:i<t.size):0<=(p.getD i dN).kids/\(p.getD i dN).kids<=t.size:=by
 obtain⟨sl,h1,h2⟩:=cM ha hv (Z08 i) (aa:i<0+t.size);have h3:=bv (t:=t) (Z08 i) aa;have h4:=Fo.cnt_le (t.kid 0 i);have:=h1.2.1;omega
theorem Ls (hp:p.length<=2048) (ha:t.At p 0) (hv:t.V cs) (hs:t.size=p.length) {i:Nat} (hi:i<t.size):FQ 109 [al p,nI i] 0 [] (bV (qS p i)) 0 []:=by
 unfold qS;by_cases hop:(p.getD i dN).op=50\/(p.getD i dN).op=51
 ·rw[decide_eq_true hop,Z1r]
  have hl:∀ k,k<2->k<rN (p.getD i dN).op:=λk hk=>by rcases hop with e|e<;>rw[e]<;>exact hk
  have n0:=pO hp ha hv hs hi 0 (hl 0 ac);rw[Z0p] at n0;have hk1:=eV hp ha hv hs hi;obtain⟨l1,l2,l3⟩:=ko ha hv hi (hl 1 ac);have hkb:=HD ha hv l3;rw[<-l1] at hkb;rw[show i+2=i+1+1 from rfl,<-l1];have hkp:((t.kid 0 i).starts (i+1)).getD 1 0<p.length:=aa;generalize (t.kid 0 i).starts (i+1)=ks at*;clear hl;refine wW Tryz.func109 ?_
  repeat'(first|refine y1 ?_|refine y2 ?_ ?_|refine y4 λh=>?_|refine an hk1 ?_|refine an n0 ?_|refine cL (.inl rfl) rfl ?_|refine y3 ?_|exact y5|fail)
  all_goals try first
   |exact (decide_eq_true ae).symm
   |exact (decide_eq_false ae).symm
  all_goals exact aU hkb.1 (Int.lt_of_le_of_lt hkb.2 aa)
 ·rw[decide_eq_false hop,Z2c]
  refine wW Tryz.func109 ?_
  repeat'(first|refine y1 ?_|refine y2 ?_ ?_|refine y4 λh=>?_|refine cL (.inl rfl) rfl ?_|refine y3 ?_|exact y5|fail)
def kC (L:List Inf):List Pth->Int
 |[]=> -1
 |c::l=>if 0<=dH L (aM c) then dH L (aM c) else kC L l
theorem rY (s:By):∀ (l:List Inf) (i:Nat),e8 s l i= -1\/(i:Int)<=e8 s l i/\e8 s l i<(i:Int)+l.length
 |[],i=> .inl rfl
 |x::l,i=>by
  simp only[e8];split
  ·grind
  ·rcases rY s l (i+1) with h|h
   all_goals grind
theorem Ah (L:List Inf):∀ l:List Pth,kC L l= -1\/∃ k:Nat,kC L l=(k:Int)/\k<L.length
 |[]=> .inl rfl
 |c::l=>by
  simp only[kC];split
  ·rename_i h
   rcases rY (aM c) L 0 with h1|h1
   ·unfold dH at h;omega
   ·right
    refine⟨(dH L (aM c)).toNat,aa,?_⟩;unfold dH at h |-;omega
  ·exact Ah L l
theorem nz {bs:List By} {s0:By}:∀ {k:Nat} {c:Pth},k<=bs.length->c∈cY bs s0 k->c.root=true/\c.up=0/\(∀ x∈c.segs,x∈bs\/x=s0)
 |0,c,_,h=>by
  grind [cY]
 |k+1,c,hk,h=>by
  simp only[cY] at h;split at h
  ·exact nz aa h
  ·rcases Z0h.1 h with rfl|h
   ·grind
   ·exact nz aa h
theorem pA {b r:Pth} {c:Pth} (h:c∈aS b r):de c.segs:=by
 unfold aS at h;split at h
 ·cases h
 ·rename_i h1
  have hb:bR b=true:=ae;have hr:aG r=true:=ae;split at h
  ·split at h
   ·rw[Z0m] at h
    subst h;rename_i h2;exact dS (zt h2)
   ·cases h
  ·rename_i h3
   obtain⟨_,_,hm⟩:=nz (Z02 _) h
   have key:∀ x∈c.segs,x.length<=4:=λx hx=>by
    rcases hm x hx with h|h
    ·unfold bR at hb
     simp only[Z07] at hb;exact (eW (Z0i.1 (aR hb.2).2.2.2.2.1 x h)).2
    ·have h5:=(aR hr).2.2.2.2.1
     have hl:r.segs.length=1:=aa
     match hq:r.segs,hl with
     |[a],_=>
      rw[hq] at h5;rw[hq] at h;simp at h;subst h;exact (eW ae).2
   intro i hi
   grind
theorem JN (L:List Inf) (hl:L.length<=2048) (sc:Pth) (h1:de sc.segs) (s:By) (hsl:s.length<=4398046511104):FQ 171 [mV L,hY sc,sV s] 0 [] (nI (kC L (aS sc (ai s).1))) 0 []:=by
 have hpr:=eG s hsl;have hcd:=A0 sc (ai s).1 h1 (dC s)
 have hso:=λc=> @pA sc (ai s).1 c
 have hlen:(aS sc (ai s).1).length<=2000000000:=by
  unfold aS;split
  ·simp
  ·rename_i h
   split
   ·grind
   ·have:=fW sc.segs ((ai s).1.segs.headD []) sc.segs.length
    have hb:bR sc=true:=ae;have:=(cT hb).2.2;omega
 generalize aS sc (ai s).1=C at*;generalize ai s=pp at*;obtain⟨⟨pr,pq,ps⟩,pok⟩:=pp;obtain⟨cr,cu,cg⟩:=sc;generalize hR:kC L C=R;refine wW Tryz.func171 ?_
 repeat'(first|refine yA ?_|refine y2 ?_ ?_|refine an hpr ?_|refine an hcd ?_|exact y5|fail)
 refine cy (σ:=Nat) (λj=>[(10,nI j)]) (λ_=>[]) (λj=>j<=C.length/\kC L (C.drop j)=R) (λj=>C.length-j) 0 rfl (λ_=>rfl) ⟨Z08 _,hR⟩ aP trivial ?_;rintro j ⟨hj,hI⟩;by_cases h:j<C.length
 ·have hd:C.drop j=C.getD j z0::C.drop (j+1):=by
   rw[Z0k h,Z00,Z01 h];rfl
  rw[hd] at hI;have hmem:C.getD j z0∈C:=ae;have hf:=kZ (C.getD j z0) (hso _ hmem);have hfi:=wJ L hl (aM (C.getD j z0));simp only[kC] at hI;by_cases ho:0<=dH L (aM (C.getD j z0))
  ·rw[if_pos ho] at hI
   repeat'(first|refine y1 ?_|refine y2 ?_ ?_|refine y4 λh=>?_|refine an hf ?_|refine an hfi ?_|refine lh (.inl rfl) rfl ?_|refine y3 ?_|exact y5|fail)
  ·rw[if_neg ho] at hI
   repeat'(first|refine yA ?_|refine y2 ?_ ?_|refine y4 λh=>?_|refine an hf ?_|refine an hfi ?_|exact y5|fail)
   refine dz (j+1) ⟨aa,hI⟩ aa rfl ⟨bB (congrArg nI ae),trivial⟩ trivial rfl rfl ac
 ·rw[Z10 aa] at hI
  simp only[kC] at hI
  repeat'(first|refine y1 ?_|refine y2 ?_ ?_|refine y4 λh=>?_|refine lh (.inl rfl) rfl ?_|refine y3 ?_|exact y5|fail)
end
abbrev rsW (O:List Ro) (nt nl:Nat) (nx nh:Int):Hp:=[(0,some (pC 7 3 5 O.length nt nl nx nh)),(1,none),(7,some (oG 7 O))]
def fC (op:Int):Bool:=decide (op=10\/(11<=op/\op<=15)\/op=18\/op=20\/op=21)
abbrev qr (p:List Nd) (i:Nat) (sc:Pth):Pth:=(ax sc (ai (p.getD (i+1) dN).str).1).1
def dq (p:List Nd) (num:Int) (O:List Ro) (nx:Int) (i:Nat) (sc:Pth):List Ro×Int×Int:=
 if fC (p.getD i dN).op=false then (O,nx,0)
 else if (p.getD i dN).op=10 then (if ma O (qO (aM (qr p i sc)) O)=false then (O,nx,6) else (O,nx,0))
 else if 0<=qO (aM (qr p i sc)) O then (O,nx,7)
 else if ma O (qO (aM (aW (qr p i sc)).1) O)=false then (O,nx,6)
 else if (O.length:Int)≥1024 then (O,nx,8)
 else (O++[(nx,cV (aM (qr p i sc)) (p.getD i dN).op (qO (aM (aW (qr p i sc)).1) O) num i)],nx+1,0)
theorem sU {q:Pth} (h:de q.segs):de (aW q).1.segs:=by
 unfold aW;split
 ·exact λi hi=>by simp[z0] at hi
 ·exact kS h _
theorem Cf (p:List Nd) (hp:p.length<=2048) (hw:kO p) (num:Int) (O:List Ro) (nt nl:Nat) (nx nh:Int) (hO:O.length<=100000) (h0:0<O.length) (hx0:0<=nx) (hx1:nx<=1000000) (i:Nat) (hi:i<p.length) (sc:Pth) (hsc:de sc.segs)
 (hj:fC (p.getD i dN).op=true->i+1<p.length/\de (qr p i sc).segs) (R:List Ro×Int×Int) (hR:dq p num O nx i sc=R):
 FQ 85 [.s (.ptr (some (0,0))),al p,nI i,hY sc,nI num] 7 (rsV O nt nl nx nh) (nI R.2.2) 9 (rsW R.1 nt nl R.2.1 nh):=by
 have hb1:(Tryz.prog.types[88]).bytes=56:=aK;have hz1:(Tryz.prog.types[88]).size=6:=aK;have hl:=oH O;unfold dq at hR;obtain⟨sr,su,ss⟩:=sc;refine wW Tryz.func85 ?_;cases hd:fC (p.getD i dN).op
 ·rw[if_pos hd] at hR
  subst hR;unfold fC at hd;rw[decide_eq_false_iff_not] at hd
  repeat'(first|refine yA ?_|refine y2 ?_ ?_|refine y4 λh=>?_|exact y5|fail)
  all_goals exact⟨.inl rfl,_,[1,2],ah _,uI rfl ⟨rfl,rfl,trivial⟩ rfl rfl rfl rfl rfl⟩
 rw[if_neg (by rw[hd];simp)] at hR;obtain⟨hi1,hq⟩:=hj hd;unfold fC at hd;rw[decide_eq_true_eq] at hd;have hprs:=eG (p.getD (i+1) dN).str (fb hw (i+1));have hsk:=dC (p.getD (i+1) dN).str;have hjn:=oO ⟨sr,su,ss⟩ (ai (p.getD (i+1) dN).str).1 hsc hsk;unfold qr at hR hq;generalize ai (p.getD (i+1) dN).str=pp at*;obtain⟨⟨pr,pq,ps⟩,pok⟩:=pp;simp only at hR hq hjn;generalize ax ⟨sr,su,ss⟩ ⟨pr,pq,ps⟩=jj at*;obtain⟨⟨jr,ju,js⟩,jok⟩:=jj;simp only at hR hq;have hfm:=kZ ⟨jr,ju,js⟩ hq;have hpn:=BK ⟨jr,ju,js⟩ hq;have hfp:=kZ (aW ⟨jr,ju,js⟩).1 (sU hq);generalize aM ⟨jr,ju,js⟩=path at*;generalize aW ⟨jr,ju,js⟩=ab at*;obtain⟨⟨ar,au,as_⟩,aok⟩:=ab;simp only at hfp hR;generalize aM ⟨ar,au,as_⟩=upath at*;have hat:=KV O nt nl nx nh path hO h0;have hau:=KV O nt nl nx nh upath hO h0;have hct:=Fz O nt nl nx nh (qO path O) hO h0;have hcu:=Fz O nt nl nx nh (qO upath O) hO h0;generalize qO path O=a1 at*;generalize qO upath O=a2 at*;generalize ma O a1=c1 at*;generalize ma O a2=c2 at*
 repeat'(first|refine Ex.cutS 2 126 8 [(0,.s (.ptr (some (0,0)))),(1,al p),(2,nI i),(4,nI num),(8,.s (.ptr (some (7,0)))),(11,nI (p.getD i dN).op)] [(0,some (Dh O.length nt nl nx nh)),(1,some (oR O)),(7,some {cells:=cH ⟨sr,su,ss⟩,ty:=99})] rfl (Hold.k ?_) (Hold.k ?_)|refine y1 ?_|refine y2 ?_ ?_|refine y3 ?_|exact y5|fail)
 ·refine⟨?_⟩
  repeat'(first|refine yA ?_|refine y2 ?_ ?_|refine y4 λh=>?_|exact y5|fail)
  all_goals refine fH [0,1,2,3,4,5,6,7] rfl rfl ⟨ah _,ah _,ah _,ah _,ah _,ah _,trivial⟩ ⟨rfl,rfl,rfl,trivial⟩ rfl
 refine⟨?_⟩;by_cases h10:(p.getD i dN).op=10
 ·rw[if_pos h10] at hR
  cases c1
  all_goals
   simp only[if_true,Z3x,if_false] at hR;subst hR
   repeat'(first|refine yA ?_|refine y2 ?_ ?_|refine y4 λh=>?_|refine an hprs ?_|refine an hjn ?_|refine an hfm ?_|refine wX (bD [0,1,2,3,4,5,6] hat ?_)|refine wX (bD [0,1,2,3,4,5,6] hct ?_)|exact y5|fail)
   all_goals exact⟨.inl rfl,_,[1,2],ah _,uI rfl ⟨rfl,rfl,trivial⟩ rfl rfl rfl rfl rfl⟩
 rw[if_neg h10] at hR;by_cases g1:0<=a1
 ·rw[if_pos g1] at hR
  subst hR
  repeat'(first|refine yA ?_|refine y2 ?_ ?_|refine y4 λh=>?_|refine an hprs ?_|refine an hjn ?_|refine an hfm ?_|refine an hpn ?_|refine an hfp ?_|refine wX (bD [0,1,2,3,4,5,6] hat ?_)|refine wX (bD [0,1,2,3,4,5,6] hau ?_)|exact y5|fail)
  all_goals exact⟨.inl rfl,_,[1,2],ah _,uI rfl ⟨rfl,rfl,trivial⟩ rfl rfl rfl rfl rfl⟩
 rw[if_neg g1] at hR;cases c2
 ·simp only[if_true] at hR
  subst hR
  repeat'(first|refine yA ?_|refine y2 ?_ ?_|refine y4 λh=>?_|refine an hprs ?_|refine an hjn ?_|refine an hfm ?_|refine an hpn ?_|refine an hfp ?_|refine wX (bD [0,1,2,3,4,5,6] hat ?_)|refine wX (bD [0,1,2,3,4,5,6] hau ?_)|refine wX (bD [0,1,2,3,4,5,6] hcu ?_)|exact y5|fail)
  all_goals exact⟨.inl rfl,_,[1,2],ah _,uI rfl ⟨rfl,rfl,trivial⟩ rfl rfl rfl rfl rfl⟩
 simp only[Z3x,if_false] at hR;by_cases g3:(O.length:Int)≥1024
 ·rw[if_pos g3] at hR
  subst hR
  repeat'(first|refine yA ?_|refine y2 ?_ ?_|refine y4 λh=>?_|refine an hprs ?_|refine an hjn ?_|refine an hfm ?_|refine an hpn ?_|refine an hfp ?_|refine wX (bD [0,1,2,3,4,5,6] hat ?_)|refine wX (bD [0,1,2,3,4,5,6] hau ?_)|refine wX (bD [0,1,2,3,4,5,6] hcu ?_)|exact y5|fail)
  all_goals exact⟨.inl rfl,_,[1,2],ah _,uI rfl ⟨rfl,rfl,trivial⟩ rfl rfl rfl rfl rfl⟩
 rw[if_neg g3] at hR;subst hR
 repeat'(first|refine y1 ?_|refine y2 ?_ ?_|refine y4 λh=>?_|refine an hprs ?_|refine an hjn ?_|refine an hfm ?_|refine an hpn ?_|refine an hfp ?_|refine wX (bD [0,1,2,3,4,5,6] hat ?_)|refine wX (bD [0,1,2,3,4,5,6] hau ?_)|refine wX (bD [0,1,2,3,4,5,6] hcu ?_)|refine Bn [.app (O.length+1) ((O++[(nx,cV path (p.getD i dN).op a2 num i)]).flatMap nP)] rfl rfl ?_ rfl rfl rfl ?_|refine y3 ?_|exact y5|fail)
 ·rw[hz1];show O.length*6<=(O.flatMap nP).length;omega
 ·rw[hz1];exact Z02 6
 ·rw[hz1,Z0r]
  show O.flatMap nP++_=List.take (O.length*6) (O.flatMap nP)++_;rw[<-hl,Z1v];rfl
 ·rw[hb1];omega
 ·refine⟨.inl rfl,.s (.int .i64 0),[12,13],ah _,uI rfl ⟨?_,rfl,trivial⟩ rfl rfl rfl rfl rfl⟩
  show _=some (pC 12 3 5 (O++[(nx,cV path (p.getD i dN).op a2 num i)]).length nt nl (nx+1) nh);rw[Z03];rfl
