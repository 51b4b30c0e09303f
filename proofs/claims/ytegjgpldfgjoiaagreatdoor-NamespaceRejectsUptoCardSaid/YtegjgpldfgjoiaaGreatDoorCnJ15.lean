import Derived.Test.YtegjgpldfgjoiaaGreatDoorCnJ13
import Derived.Test.YtegjgpldfgjoiaaGreatDoorCnJ12
set_option linter.all false
set_option maxHeartbeats 40000000
set_option maxRecDepth 100000
namespace Go.Proofs.YtegjgpldfgjoiaaGreatDoor
open Go Ab
theorem yZ:SC Tryz.prog 158 [.s (.slc none 0 (some 0))] 0 [] (.s (bc [])) 0 []:=by
 refine (FC.walk (v:=.s (bc [])) aK Tryz.func158 rfl rfl ?_).2
 repeat'(first|refine y1 ?_|refine y2 ?_ ?_|refine y4 λh=>?_|refine dv (.inl rfl) rfl ?_ rfl|refine y3 ?_|exact y5|fail)
 exact VLe.s SLe.nil
theorem y_:SC Tryz.prog 158 [.s .emq] 0 [] (.s (bc [])) 0 []:=by
 refine (FC.walk (v:=.s (bc [])) aK Tryz.func158 rfl rfl ?_).2
 repeat'(first|refine y1 ?_|refine y2 ?_ ?_|refine RegX.atCmp (CmpG.nn false trivial rfl (.inl ⟨rfl,rfl⟩) rfl rfl ?_)|refine y3 ?_|exact y5|fail)
 refine mo [.app 0 []] rfl rfl ⟨rfl,rfl,rfl,rfl,rfl,rfl,(λh=>nomatch h),ae,ac⟩ ?_
 repeat'(first|refine y1 ?_|refine y2 ?_ ?_|refine gH 2 (.s (bc [])) (VLe.s (λφ x h=>SLe.emqfrz φ x (SLe.slaemq φ x h))) rfl ?_|refine dv (.inl rfl) rfl (ah _) rfl|refine y3 ?_|exact y5|fail)
theorem dM (l:List By):cX (λk=>[S.str (l.getD k [])]) l.length=l.map S.str:=by
 rw[k9 (λs=>[S.str s]) [] l]
 induction l with
 |nil=>rfl
 |cons a l ih=>grind
theorem fo {bl:Bl} (l:List By):cf bl (l.map S.str)=true:=B6 λx hx=>by
 obtain⟨s,_,rfl⟩:=Z1d.1 hx;rfl
theorem u_ {l:List By} {k j:Nat} {x:S} (hk:k<l.length) (hx:[S.str (l.getD k [])][j]? =some x):(l.map S.str)[k*1+j]? =some x/\bL x=true:=by
 cases j with
 |succ j=>simp at hx
 |zero=>
  simp only[Z11,Z06] at hx;subst hx;rw[Z1p,Z0p,Z0t,Z01 hk,Z00,Z01 hk];exact⟨rfl,rfl⟩
theorem AV (l:List By) (hl:l.length<1000000):FQ 158 [.s (bc l)] 0 [] (.s (bc l)) 0 []:=by
 cases l with
 |nil=>exact⟨aK,SC.split2 (pre:=[]) (post:=[]) (λφ x h=>qe h) yZ y_⟩
 |cons s t=>
  refine wW Tryz.func158 ?_
  repeat'(first|refine y1 ?_|refine y2 ?_ ?_|refine RegX.atCmp (CmpG.nn false (Z1n _) rfl (.inl ⟨rfl,rfl⟩) rfl rfl ?_)|refine y3 ?_|exact y5|fail)
  refine mo [.app (s::t).length ((s::t).map S.str)] rfl rfl ⟨rfl,trivial,rfl,by rw[Z0c],?_,?_,(λh=>nomatch h),?_,aa⟩ ?_
  ·rw[dM,Z24];rfl
  ·rw[dM];exact fo _
  ·rw[show (Tryz.prog.types[9]).bytes=16 by kernel_rfl];omega
  repeat'(first|refine y1 ?_|refine y2 ?_ ?_|refine Ex.fz 2 (λk=>[.str ((s::t).getD k [])]) 1 rfl rfl rfl rfl (λ_ _=>rfl) ?_ rfl rfl ?_|refine dv (.inl rfl) rfl (ah _) rfl|refine y3 ?_|exact y5|fail)
  grind [u_]
theorem B3:FQ 213 [.s (.slc none 0 (some 0)),nI 0] 0 [] (.s (.slc none 0 (some 0))) 0 []:=by
 refine wW Tryz.func213 ?_
 repeat'(first|refine y1 ?_|refine y2 ?_ ?_|refine y4 λh=>?_|refine RegX.cap0 rfl rfl rfl ?_|refine jk (.inl rfl) rfl ?_ rfl|refine y3 ?_|exact y5|fail)
theorem Ks (n:Nat) (h0:0<n) (hl:n<4000000):FQ 213 [.s (.slc none 0 (some 0)),nI n] 0 [] (.s (.sla 0 1 0)) 2 [(0,some {cells:=[],ty:=9,more:=true,sym:=true,flat:=true,gh:=some (1,1)})]:=by
 refine wW Tryz.func213 ?_
 repeat'(first|refine y1 ?_|refine y2 ?_ ?_|refine y4 λh=>?_|refine RegX.cap0 rfl rfl rfl ?_|refine RegX.nilTo rfl rfl rfl rfl rfl ?_ ?_|refine RegX.mkz n rfl rfl rfl rfl rfl rfl rfl rfl rfl ?_ h0 ?_ aa ?_ ?_|refine y3 ?_|exact y5|fail)
 ·rw[show (Tryz.prog.types[9]).bytes=16 by kernel_rfl];omega
 ·refine mo [.win 0 0 []] rfl rfl ⟨rfl,rfl,Z02 _,Z08 _,ae,rfl⟩ ?_
  repeat'(first|refine y1 ?_|refine y2 ?_ ?_|exact⟨.inl rfl,_,[2,3],ah _,fY rfl ⟨rfl,trivial⟩ rfl rfl rfl rfl⟩|refine y3 ?_|exact y5|fail)
theorem FB (x y:List By) (n m:Nat) (g1 g2:Nat->List S) (hn:x.length=n) (hm':y.length=m) (f1:cX g1 n=x.map S.str) (f2:cX g2 m=y.map S.str) (hx:n<1000000) (hy:m<1000000):FQ 159 [.s (.slc (some (0,0)) 2 (some 2))] 1 [(0,some {cells:=[.frz g1 1 n,.frz g2 1 m],ty:=23})] (.s (bc (x++y))) 1 [(0,some {cells:=[.frz g1 1 n,.frz g2 1 m],ty:=23})]:=by
 refine wW Tryz.func159 ?_;by_cases h0:n+m=0
 ·obtain rfl:x=[]:=Z15 aa
  obtain rfl:n=0:=aa;obtain rfl:y=[]:=Z15 aa;obtain rfl:m=0:=aa
  repeat'(first|refine y1 ?_|refine y2 ?_ ?_|refine y4 λh=>?_|refine an B3 ?_|refine Ex.unroll 3 ?_|refine RegX.apNil rfl rfl rfl rfl rfl rfl rfl ?_|refine gH 2 (.s (bc [])) (VLe.s SLe.nil) rfl ?_|exact bK|refine y3 ?_|exact y5|fail)
 ·
  have htot:(0:Int)+n+m=((n+m:Nat):Int):=aa
  repeat'(first|refine y1 ?_|refine y2 ?_ ?_|refine y4 λh=>?_|refine Ex.unroll 3 ?_|refine RegX.atCall (Zgm [] (Ks (n+m) aa aa) rfl (args1:=[.s (.slc none 0 (some 0)),nI (0+n+m)]) rfl ⟨ah _,bB (congrArg nI htot),trivial⟩ trivial rfl rfl rfl ?_)|refine y3 ?_|exact y5|fail)
  refine mo [.app n (x.map S.str)] rfl rfl ⟨Z5a (Z24 _),trivial,rfl,by rw[Z0c],?_,?_,(λh=>nomatch h),?_,aa⟩ ?_
  ·grind
  ·rw[f1];exact fo _
  ·rw[show (Tryz.prog.types[9]).bytes=16 by kernel_rfl];omega
  repeat'(first|refine y1 ?_|refine y2 ?_ ?_|refine y4 λh=>?_|refine y3 ?_|exact y5|fail)
  have hsz1:(Tryz.prog.types[9]).size=1:=aK;refine mo [.app (n+m) ((x++y).map S.str)] rfl rfl ⟨?_,trivial,rfl,rfl,?_,?_,(λh=>nomatch h),?_,aa⟩ ?_
  ·grind
  ·rw[f2,hsz1];show _=(x.map S.str).take (n*1)++_;rw[Z1p,Z1l ae,Z0d]
  ·rw[f2];exact fo _
  ·rw[show (Tryz.prog.types[9]).bytes=16 by kernel_rfl];omega
  repeat'(first|refine y1 ?_|refine y2 ?_ ?_|refine y4 λh=>?_|refine Ex.fz 2 (λk=>[.str ((x++y).getD k [])]) 1 rfl rfl rfl rfl (λ_ _=>rfl) ?_ rfl rfl ?_|refine y3 ?_|exact y5|fail)
  ·grind [u_]
  ·refine⟨.inl rfl,.s (.frz (λk=>[.str ((x++y).getD k [])]) 1 (n+m)),[],bB ?_,fY ?_ ?_ rfl rfl rfl rfl⟩
   ·unfold bc;rw[Z03,hn,hm']
   ·rfl
   ·refine⟨?_,trivial⟩
    rfl
theorem aR {p:Pth} (h:aG p=true):0<=p.up/\p.up<=32/\(p.segs.length:Int)<=32-p.up/\(p.root=true->p.up=0)/\p.segs.all a_=true/\(p.root=true\/0<p.up\/0<p.segs.length):=by
 grind [aG]
theorem cT {p:Pth} (h:bR p=true):p.root=true/\p.up=0/\p.segs.length<=32:=by
 unfold bR at h;simp only[Z07] at h;obtain⟨h0,h1⟩:=h;obtain⟨a1,a2,a3,a4,_⟩:=aR h1
 grind
theorem m6 (l:List By) {k:Nat} (h:k<=l.length):cX (λi=>[S.str (l.getD i [])]) k=(l.take k).map S.str:=by
 induction k with
 |zero=>rfl
 |succ k ih=>rw[k8,ih aa,Z49,Z0d,Z00,Z01 aa];rfl
def ax (b r:Pth):Pth×Bool:=
 if bR b=false\/aG r=false then (z0,false)
 else if r.root then (⟨true,0,r.segs⟩,true)
 else if (b.segs.length:Int)-r.up<0\/32<(b.segs.length:Int)-r.up+r.segs.length then (z0,false)
 else (⟨true,0,b.segs.take ((b.segs.length:Int)-r.up).toNat++r.segs⟩,true)
theorem yC (br:Bool) (bu:Int) (bs:List By) (rr:Bool) (ru:Int) (rs:List By):
 FQ 95 [.agg [.bool br,.int .i64 bu,bc bs],.agg [.bool rr,.int .i64 ru,bc rs]] 0 [] (x6 (ax ⟨br,bu,bs⟩ ⟨rr,ru,rs⟩)) 0 []:=by
 have ha:=zr br bu bs;have hv:=fm rr ru rs;refine wW Tryz.func95 ?_
 cases h1:bR ⟨br,bu,bs⟩<;>rw[h1] at ha
 ·
  repeat'(first|refine y1 ?_|refine y2 ?_ ?_|refine bG ha ?_|refine dv (.inl rfl) rfl (eu (by simp[ax,h1])) rfl|refine y3 ?_|exact y5|fail)
 cases h2:aG ⟨rr,ru,rs⟩<;>rw[h2] at hv
 ·
  repeat'(first|refine y1 ?_|refine y2 ?_ ?_|refine bG ha ?_|refine bG hv ?_|refine dv (.inl rfl) rfl (eu (by simp[ax,h2])) rfl|refine y3 ?_|exact y5|fail)
 obtain⟨a1,a2,a3⟩:=cT h1;obtain⟨v1,v2,v3,v4,v5,v6⟩:=aR h2;simp only at a1 a2 a3 v1 v2 v3 v4 v5 v6;cases rr
 ·by_cases hn:(bs.length:Int)-ru<0
  ·
   repeat'(first|refine y1 ?_|refine y2 ?_ ?_|refine y4 λh=>?_|refine bG ha ?_|refine bG hv ?_|refine dv (.inl rfl) rfl (eu (by simp[ax,h1,h2];omega)) rfl|refine y3 ?_|exact y5|fail)
  ·obtain⟨k,hk⟩:∃ k:Nat,(bs.length:Int)-ru=(k:Int):=⟨((bs.length:Int)-ru).toNat,aa⟩
   have hcc:=FB (bs.take k) rs k rs.length (λk=>[.str (bs.getD k [])]) (λk=>[.str (rs.getD k [])]) ae rfl (m6 bs aa) (dM rs) aa aa
   repeat'(first|refine y1 ?_|refine y2 ?_ ?_|refine y4 λh=>?_|refine bG ha ?_|refine bG hv ?_|refine gH 6 (nI k) (bB (congrArg nI hk)) rfl ?_|refine dv (.inl rfl) rfl (eu (by simp[ax,h1,h2];omega)) rfl|refine y3 ?_|exact y5|fail)
   refine RegX.atCall (bD [3] hcc ?_)
   repeat'(first|refine y1 ?_|refine y2 ?_ ?_|refine dv (.inl rfl) rfl (gR ?_) rfl|refine y3 ?_|exact y5|fail)
   grind [ax]
 ·
  have hcl:=AV rs aa
  repeat'(first|refine y1 ?_|refine y2 ?_ ?_|refine bG ha ?_|refine bG hv ?_|refine an hcl ?_|refine dv (.inl rfl) rfl (gR (by simp[ax,h1,h2])) rfl|refine y3 ?_|exact y5|fail)
theorem Ez (b r:Pth):FQ 95 [hY b,hY r] 0 [] (x6 (ax b r)) 0 []:=yC b.root b.up b.segs r.root r.up r.segs
theorem GP {l:List By} {k:Nat} (h:k<=l.length):VLe (.s (.frz (λi=>[.str (l.getD i [])]) 1 k)) (.s (bc (l.take k))):=by
 unfold bc;rw[Z19,Z45 h];refine VLe.s (SLe.frz λi hi=>?_)
 grind
def aW (p:Pth):Pth×Bool:=if bR p=false\/p.segs.length=0 then (z0,false) else (⟨true,0,p.segs.take (p.segs.length-1)⟩,true)
theorem vL (br:Bool) (bu:Int) (bs:List By):FQ 96 [.agg [.bool br,.int .i64 bu,bc bs]] 0 [] (x6 (aW ⟨br,bu,bs⟩)) 0 []:=by
 have ha:=zr br bu bs;refine wW Tryz.func96 ?_
 cases h1:bR ⟨br,bu,bs⟩<;>rw[h1] at ha
 ·
  repeat'(first|refine y1 ?_|refine y2 ?_ ?_|refine bG ha ?_|refine dv (.inl rfl) rfl (eu (by simp[aW,h1])) rfl|refine y3 ?_|exact y5|fail)
 obtain⟨a1,a2,a3⟩:=cT h1;simp only at a1 a2 a3;by_cases h0:bs.length=0
 ·
  repeat'(first|refine y1 ?_|refine y2 ?_ ?_|refine y4 λh=>?_|refine bG ha ?_|refine dv (.inl rfl) rfl (eu (by simp[aW,h1];simp_all;done)) rfl|refine y3 ?_|exact y5|fail)
 ·
  have hcl:=AV (bs.take (bs.length-1)) ae;have hk:(bs.length:Int)-1=((bs.length-1:Nat):Int):=aa
  repeat'(first|refine yA ?_|refine y2 ?_ ?_|refine y4 λh=>?_|refine bG ha ?_|exact y5|fail)
  refine RegX.chunkN 6 rfl rfl ?_ (RegX.eqv 19 (congrArg nI hk) rfl ?_)
  all_goals
   repeat'(first|refine y1 ?_|refine y2 ?_ ?_|refine RegX.atCall (sC hcl rfl ⟨GP (k:=bs.length-1) aa,trivial⟩ rfl rfl rfl ?_)|refine dv (.inl rfl) rfl (gR ?_) rfl|refine y3 ?_|exact y5|fail)
  grind [aW]
theorem DD (p:Pth):FQ 96 [hY p] 0 [] (x6 (aW p)) 0 []:=vL p.root p.up p.segs
section
variable {bs:List By} {k:Nat}
def tu (l:List Pth):S:=.frz (λk=>cH (l.getD k z0)) 3 l.length
def scP (bs:List By) (live:Bool) (k:Nat):Pth:=if live then ⟨true,0,bs.take k⟩ else z0
def cY (bs:List By) (s:By):Nat->List Pth
 |0=>[⟨true,0,[s]⟩]
 |k+1=>if 32<k+2 then cY bs s k else ⟨true,0,bs.take (k+1)++[s]⟩::cY bs s k
def aS (b r:Pth):List Pth:=
 if bR b=false\/aG r=false then []
 else if r.root=true\/0<r.up\/r.segs.length≠1 then (if (ax b r).2 then [(ax b r).1] else [])
 else cY b.segs (r.segs.headD []) b.segs.length
def resS:List Pth->S
 |[]=> .slc none 0 (some 0)
 |p::l=> .sla 3 4 (l.length+1)
def resH:List Pth->Hp
 |[]=>[]
 |p::l=>[(3,some {cells:=(p::l).flatMap cH,ty:=99,more:=true,sym:=true,flat:=true,gh:=some (4,3)})]
theorem DA {p:Pth} {j:Nat} {x:S} (h:(cH p)[j]? =some x):bL x=true:=by
 unfold cH at h
 match j,h with
 |0,h=>cases h;rfl
 |1,h=>cases h;rfl
 |2,h=>cases h;rfl
 |j+3,h=>simp at h
theorem kh:∀ {l:List Pth} {k j:Nat} {x:S},k<l.length->(cH (l.getD k z0))[j]? =some x->(l.flatMap cH)[k*3+j]? =some x/\bL x=true
 |[],k,j,x,hk,_=>by grind
 |p::l,0,j,x,hk,hx=>by
  refine⟨?_,DA hx⟩
  grind
 |p::l,k+1,j,x,hk,hx=>by
  have:=kh (l:=l) (k:=k) (j:=j) (x:=x) ae hx;refine⟨?_,this.2⟩;rw[Z0g,Z1f (by simp[cH];omega)];rw[show (k+1)*3+j-(cH p).length=k*3+j by simp[cH];omega];exact this.1
theorem tm (p:Pth):∀ (k j:Nat) (x:S),k<1->(cH ([p].getD k z0))[j]? =some x->(cH p)[k*3+j]? =some x/\bL x=true:=by
 intro k j x hk hx;have:=kh (l:=[p]) (k:=k) (j:=j) (x:=x) hk hx
 grind
theorem xo (h:bR ⟨true,0,bs⟩=true):bR ⟨true,0,bs.take k⟩=true:=by
 unfold bR aG at*;simp only[Z07,decide_eq_true_eq,Z1r,Z3e,Z3m,Z0i,Z19] at*
 grind
theorem rP {s0:By} (h:bR ⟨true,0,bs⟩=true) (hv:aG ⟨false,0,[s0]⟩=true) (hk:k<=bs.length):ax ⟨true,0,bs.take k⟩ ⟨false,0,[s0]⟩=if 32<k+1 then (z0,false) else (⟨true,0,bs.take k++[s0]⟩,true):=by
 have h1:=xo (k:=k) h;have hl:(bs.take k).length=k:=ae
 grind [ax]
theorem nR (h:bR ⟨true,0,bs⟩=true) (hk:k<=bs.length):aW ⟨true,0,bs.take k⟩=if k=0 then (z0,false) else (⟨true,0,bs.take (k-1)⟩,true):=by
 have h1:=xo (k:=k) h
 have hl:(bs.take k).length=k:=by rw[Z19];omega
 unfold aW;simp only[h1,hl];by_cases hk0:k=0
 ·rw[if_pos hk0,if_pos (.inr hk0)]
 ·rw[if_neg hk0,if_neg (by simp[hk0]),List.take_take,Z45 aa]
theorem ek:∀ l:List Pth,(l.flatMap cH).length=l.length*3
 |[]=>rfl
 |p::l=>by rw[Z0g,Z03,ek l];simp only[Z04];simp[cH];omega
theorem fW (bs:List By) (s0:By):∀ k,(cY bs s0 k).length<=k+1
 |0=>by simp[cY]
 |k+1=>by
  have:=fW bs s0 k
  grind [cY]
theorem KL (br:Bool) (bu:Int) (bs:List By) (rr:Bool) (ru:Int) (rs:List By):
 FQ 49 [.agg [.bool br,.int .i64 bu,bc bs],.agg [.bool rr,.int .i64 ru,bc rs]] 0 [] (.s (tu (aS ⟨br,bu,bs⟩ ⟨rr,ru,rs⟩))) 0 []:=by
 have ha:=zr br bu bs;have hv:=fm rr ru rs;have hj:=yC br bu bs rr ru rs;refine wW Tryz.func49 ?_
 cases h1:bR ⟨br,bu,bs⟩<;>rw[h1] at ha
 ·
  repeat'(first|refine y1 ?_|refine y2 ?_ ?_|refine bG ha ?_|refine dv (.inl rfl) rfl ?_ rfl|refine y3 ?_|exact y5|fail)
  simp only[aS,h1];exact VLe.s SLe.nil
 cases h2:aG ⟨rr,ru,rs⟩<;>rw[h2] at hv
 ·
  repeat'(first|refine y1 ?_|refine y2 ?_ ?_|refine bG ha ?_|refine bG hv ?_|refine dv (.inl rfl) rfl ?_ rfl|refine y3 ?_|exact y5|fail)
  simp only[aS,h1,h2];exact VLe.s SLe.nil
 obtain⟨a1,a2,a3⟩:=cT h1;obtain⟨v1,v2,v3,v4,v5,v6⟩:=aR h2;simp only at a1 a2 a3 v1 v2 v3 v4 v5 v6;by_cases hc:rr=true\/0<ru\/rs.length≠1
 ·have hcand:aS ⟨br,bu,bs⟩ ⟨rr,ru,rs⟩=if (ax ⟨br,bu,bs⟩ ⟨rr,ru,rs⟩).2 then [(ax ⟨br,bu,bs⟩ ⟨rr,ru,rs⟩).1] else []:=by
   grind [aS]
  rw[hcand];generalize ax ⟨br,bu,bs⟩ ⟨rr,ru,rs⟩=j at*;obtain⟨p,ok⟩:=j;cases ok
  ·cases rr
   ·have hc':0<ru\/rs.length≠1:=ae
    repeat'(first|refine y1 ?_|refine y2 ?_ ?_|refine y4 λh=>?_|refine bG ha ?_|refine bG hv ?_|refine an hj ?_|refine dv (.inl rfl) rfl ?_ rfl|refine y3 ?_|exact y5|fail)
    all_goals exact VLe.s SLe.nil
   ·
    repeat'(first|refine y1 ?_|refine y2 ?_ ?_|refine bG ha ?_|refine bG hv ?_|refine an hj ?_|refine dv (.inl rfl) rfl ?_ rfl|refine y3 ?_|exact y5|fail)
    all_goals exact VLe.s SLe.nil
  ·cases rr
   ·have hc':0<ru\/rs.length≠1:=ae
    repeat'(first|refine y1 ?_|refine y2 ?_ ?_|refine y4 λh=>?_|refine bG ha ?_|refine bG hv ?_|refine an hj ?_|refine Bn [.app 1 (cH p)] rfl rfl ?_ rfl rfl rfl ?_|refine Ex.fz 4 (λk=>cH ([p].getD k z0)) 3 rfl rfl rfl rfl (λk _=>rfl) (tm p) rfl rfl ?_|refine dv (.inl rfl) rfl ?_ rfl|refine y3 ?_|exact y5|fail)
    all_goals first
     |exact ah _
     |(rw[show (Tryz.prog.types[99]).size=3 by kernel_rfl];exact Z02 _)
     |(rw[show (Tryz.prog.types[99]).bytes=40 by kernel_rfl];omega)
   ·
    repeat'(first|refine y1 ?_|refine y2 ?_ ?_|refine bG ha ?_|refine bG hv ?_|refine an hj ?_|refine Bn [.app 1 (cH p)] rfl rfl ?_ rfl rfl rfl ?_|refine Ex.fz 4 (λk=>cH ([p].getD k z0)) 3 rfl rfl rfl rfl (λk _=>rfl) (tm p) rfl rfl ?_|refine dv (.inl rfl) rfl ?_ rfl|refine y3 ?_|exact y5|fail)
    all_goals first
     |exact ah _
     |(rw[show (Tryz.prog.types[99]).size=3 by kernel_rfl];exact Z02 _)
     |(rw[show (Tryz.prog.types[99]).bytes=40 by kernel_rfl];omega)
 ·have hr:rr=false:=ae
  have hu:ru=0:=by
   grind
  have hl:rs.length=1:=Z4c.1 λh=>hc (.inr (.inr h))
  obtain⟨s0,rfl⟩:∃ s0,rs=[s0]:=Z5o.1 hl;subst hr hu a1 a2
  have hcand:aS ⟨true,0,bs⟩ ⟨false,0,[s0]⟩=cY bs s0 bs.length:=by
   grind [aS]
  rw[hcand]
  repeat'(first|refine yA ?_|refine y2 ?_ ?_|refine y4 λh=>?_|refine bG ha ?_|refine bG hv ?_|exact y5|fail)
  refine Ex.upN (n':=5) aa ?_
  refine cy (σ:=Bool×Nat×List Pth) (λx=>[(5,.s (resS x.2.2)),(8,.s (.ptr (some (2,0)))),(9,.s (.bool x.1))])
   (λx=>(0,some {cells:=[.bool true,.int .i64 0,bc bs],ty:=99})::(1,some {cells:=[.bool false,.int .i64 0,bc [s0]],ty:=99})::(2,some {cells:=cH (scP bs x.1 x.2.1),ty:=99})::resH x.2.2)
   (λx=>x.2.1<=bs.length/\x.2.2++(if x.1 then cY bs s0 x.2.1 else [])=cY bs s0 bs.length) (λx=>if x.1 then x.2.1+1 else 0) (true,bs.length,[]) rfl (λ_=>rfl) ⟨Z02 _,aq⟩ aP ⟨rfl,rfl,?_,trivial⟩ ?_
  ·simp only[scP,cH,if_true,Z1v];rfl
  ·rintro⟨live,k,done⟩ ⟨i1,i2⟩
   simp only at i1 i2 |-;cases live
   ·simp only[Z0l,if_false,Z0u] at i2
    subst i2
    cases hd:cY bs s0 bs.length with
    |nil=>
     repeat'(first|refine y1 ?_|refine y2 ?_ ?_|refine dv (.inl rfl) rfl (VLe.s SLe.nil) rfl|refine y3 ?_|exact y5|fail)
    |cons d l=>
     repeat'(first|refine y1 ?_|refine y2 ?_ ?_|refine Ex.fz 4 (λk=>cH ((d::l).getD k z0)) 3 rfl rfl rfl rfl (λk _=>rfl) (λk j x hk hx=>kh hk hx) rfl rfl ?_|refine dv (.inl rfl) rfl (ah _) rfl|refine y3 ?_|exact y5|fail)
   ·have hjk:=yC true 0 (bs.take k) false 0 [s0]
    have hpk:=vL true 0 (bs.take k);rw[rP h1 h2 i1] at hjk;rw[nR h1 i1] at hpk;simp only[if_true] at i2
    have hlen:done.length<=33:=by
     grind [fW]
    have hsz:(Tryz.prog.types[99]).size=3:=aK;have hby:(Tryz.prog.types[99]).bytes=40:=aK
    cases k with
    |zero=>
     rw[if_neg aa] at hjk;rw[if_pos rfl] at hpk;simp only[cY] at i2
     cases done with
     |nil=>
      repeat'(first|refine Ex.flat 7 rfl rfl rfl rfl ?_|refine y1 ?_|refine y2 ?_ ?_|refine an hjk ?_|refine an hpk ?_|refine Bn [.app 1 (cH (Pth.mk true 0 (bs.take 0++[s0])))] rfl rfl ?_ rfl rfl rfl ?_|refine y3 ?_|exact y5|fail)
      all_goals try (rw[hsz];exact Z02 _)
      refine fX (false,0,[Pth.mk true 0 (bs.take 0++[s0])]) ⟨Z08 _,?_⟩ aq [0,1,9,7,8] rfl ?_ ?_ rfl
      ·grind
      ·repeat'(first|exact ah _|exact dd _|exact Z0o|refine⟨?_,?_⟩)
      ·exact⟨rfl,rfl,rfl,rfl,trivial⟩
     |cons d l=>
      repeat'(first|refine y1 ?_|refine y2 ?_ ?_|refine an hjk ?_|refine an hpk ?_|refine Bn [.app ((l++[Pth.mk true 0 (bs.take 0++[s0])]).length+1) ((d::l++[Pth.mk true 0 (bs.take 0++[s0])]).flatMap cH)] rfl rfl ?_ rfl rfl rfl ?_|refine y3 ?_|exact y5|fail)
      all_goals try first
       |(rw[hsz];exact Z02 _)
       |(simp only[Z03,Z04,Z0e];done)
       |(rw[hby];simp only[Z04,Z03,Z0e] at hlen |-;omega)
       |(simp only[Z04,Z03,Z0e] at hlen |-;omega)
       |(rw[hsz,ek];exact Z02 _)
       |(rw[hsz,Z0r];show _=List.take ((d::l).length*3) (List.flatMap cH (d::l))++_;rw[<-ek,Z1v];rfl)
      refine fX (false,0,(d::l++[Pth.mk true 0 (bs.take 0++[s0])])) ⟨Z08 _,?_⟩ aq [0,1,9,7,8] rfl ?_ ?_ rfl
      ·grind
      ·repeat'(first|exact ah _|exact dd _|exact Z0o|refine⟨?_,?_⟩)
      ·exact⟨rfl,rfl,rfl,rfl,trivial⟩
    |succ k=>
     rw[if_neg aa] at hpk;simp only[cY] at i2;by_cases h32:32<k+2
     ·rw[if_pos h32] at i2
      rw[if_pos aa] at hjk
      cases done with
      |nil=>
       repeat'(first|refine yA ?_|refine y2 ?_ ?_|refine an hjk ?_|refine an hpk ?_|exact y5|fail)
       refine fX (true,k,[]) ⟨ae,?_⟩ aq [0,1,6,3,4] rfl ?_ ?_ rfl
       ·grind
       ·repeat'(first|exact ah _|exact dd _|exact Z0o|refine⟨?_,?_⟩)
       ·exact⟨rfl,rfl,rfl,trivial⟩
      |cons d l=>
       repeat'(first|refine yA ?_|refine y2 ?_ ?_|refine an hjk ?_|refine an hpk ?_|exact y5|fail)
       refine fX (true,k,(d::l)) ⟨ae,?_⟩ aq [0,1,6,3,4] rfl ?_ ?_ rfl
       ·grind
       ·repeat'(first|exact ah _|exact dd _|exact Z0o|refine⟨?_,?_⟩)
       ·exact⟨rfl,rfl,rfl,rfl,trivial⟩
     ·rw[if_neg h32] at i2
      rw[if_neg aa] at hjk
      cases done with
      |nil=>
       repeat'(first|refine Ex.flat 7 rfl rfl rfl rfl ?_|refine y1 ?_|refine y2 ?_ ?_|refine an hjk ?_|refine an hpk ?_|refine Bn [.app 1 (cH (Pth.mk true 0 (bs.take (k+1)++[s0])))] rfl rfl ?_ rfl rfl rfl ?_|refine y3 ?_|exact y5|fail)
       all_goals try (rw[hsz];exact Z02 _)
       refine fX (true,k,[Pth.mk true 0 (bs.take (k+1)++[s0])]) ⟨ae,?_⟩ aq [0,1,9,7,8] rfl ?_ ?_ rfl
       ·grind
       ·repeat'(first|exact ah _|exact dd _|exact Z0o|refine⟨?_,?_⟩)
       ·exact⟨rfl,rfl,rfl,rfl,trivial⟩
      |cons d l=>
       repeat'(first|refine y1 ?_|refine y2 ?_ ?_|refine an hjk ?_|refine an hpk ?_|refine Bn [.app ((l++[Pth.mk true 0 (bs.take (k+1)++[s0])]).length+1) ((d::l++[Pth.mk true 0 (bs.take (k+1)++[s0])]).flatMap cH)] rfl rfl ?_ rfl rfl rfl ?_|refine y3 ?_|exact y5|fail)
       all_goals try first
        |(rw[hsz];exact Z02 _)
        |(simp only[Z03,Z04,Z0e];done)
        |(rw[hby];simp only[Z04,Z03,Z0e] at hlen |-;omega)
        |(simp only[Z04,Z03,Z0e] at hlen |-;omega)
        |(rw[hsz,ek];exact Z02 _)
        |(rw[hsz,Z0r];show _=List.take ((d::l).length*3) (List.flatMap cH (d::l))++_;rw[<-ek,Z1v];rfl)
       refine fX (true,k,(d::l++[Pth.mk true 0 (bs.take (k+1)++[s0])])) ⟨ae,?_⟩ aq [0,1,9,7,8] rfl ?_ ?_ rfl
       ·grind
       ·repeat'(first|exact ah _|exact dd _|exact Z0o|refine⟨?_,?_⟩)
       ·exact⟨rfl,rfl,rfl,rfl,trivial⟩
theorem ze (b r:Pth):FQ 49 [hY b,hY r] 0 [] (.s (tu (aS b r))) 0 []:=KL b.root b.up b.segs r.root r.up r.segs
end
