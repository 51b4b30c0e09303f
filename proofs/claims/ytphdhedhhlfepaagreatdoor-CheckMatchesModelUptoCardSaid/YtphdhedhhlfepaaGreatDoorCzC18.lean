import Derived.Test.YtphdhedhhlfepaaGreatDoorCzC17
import Derived.Test.YtphdhedhhlfepaaGreatDoorCzC10
import Derived.Test.YtphdhedhhlfepaaGreatDoorCzC11
set_option linter.unusedSimpArgs false
set_option linter.unusedVariables false
namespace Go.Proofs.YtphdhedhhlfepaaGreatDoor
open Go Ab
set_option maxRecDepth 100000
set_option maxHeartbeats 4000000
theorem cloneNil_c:SC Tryz.prog 144 [.s (.slc none 0 (some 0))] 0 [] (.s (strsF [])) 0 []:=by
 refine (FC.walk (v:=.s (strsF [])) (by kernel_rfl) Tryz.func144 rfl rfl ?_).2
 repeat'(first|exact y0|refine y1 ?_|refine y2 ?_ ?_|(refine y8 ?_ ?_<;>intro h<;>try exact y6)|refine Unr.next' rfl ?_|refine BrG.tt ?_|refine Fin.le (.inl rfl) rfl ?_ rfl|refine y3 ?_|refine y7 ?_ ?_|refine y4 ?_|(refine y9 ?_ ?_<;>intro h)|exact y5|fail)
 exact VLe.s SLe.nil
theorem cloneEmq_c:SC Tryz.prog 144 [.s .emq] 0 [] (.s (strsF [])) 0 []:=by
 refine (FC.walk (v:=.s (strsF [])) (by kernel_rfl) Tryz.func144 rfl rfl ?_).2
 repeat'(first|exact y0|refine y1 ?_|refine y2 ?_ ?_|(refine y8 ?_ ?_<;>intro h<;>try exact y6)|refine Unr.next' rfl ?_|refine RegX.atCmp (CmpG.nn false trivial rfl (.inl ⟨rfl,rfl⟩) rfl rfl ?_)|refine y3 ?_|refine y7 ?_ ?_|refine y4 ?_|(refine y9 ?_ ?_<;>intro h)|exact y5|fail)
 refine RegX.opA [.app 0 []] rfl rfl ⟨rfl,rfl,rfl,rfl,rfl,rfl,(fun h=>nomatch h),by rw[Nat.zero_mul];decide,by decide⟩ ?_
 repeat'(first|exact y0|refine y1 ?_|refine y2 ?_ ?_|(refine y8 ?_ ?_<;>intro h<;>try exact y6)|refine Unr.next' rfl ?_|refine Ex.set 2 (.s (strsF [])) (VLe.s (fun φ x h=>SLe.emqfrz φ x (SLe.slaemq φ x h))) rfl ?_|refine Fin.le (.inl rfl) rfl (VLe.refl _) rfl|refine y3 ?_|refine y7 ?_ ?_|refine y4 ?_|(refine y9 ?_ ?_<;>intro h)|exact y5|fail)
theorem strs_flat (l:List By):flatG (fun k=>[S.str (l.getD k [])]) l.length=l.map S.str:=by
 rw[flatG_list (fun s=>[S.str s]) [] l]
 induction l with
 |nil=>rfl
 |cons a l ih=>simp only[List.flatMap_cons,List.map_cons,ih,List.singleton_append]
theorem strs_fit {bl:Bl} (l:List By):fitsIn bl (l.map S.str)=true:=fitsIn_of fun x hx=>by
 obtain⟨s,_,rfl⟩:=List.mem_map.1 hx;rfl
theorem strs_get {l:List By} {k j:Nat} {x:S} (hk:k<l.length) (hx:[S.str (l.getD k [])][j]? =some x):(l.map S.str)[k*1+j]? =some x∧pureS x=true:=by
 cases j with
 |succ j=>simp at hx
 |zero=>
  simp only[List.getElem?_cons_zero,Option.some.injEq] at hx;subst hx;rw[Nat.mul_one,Nat.add_zero,List.getElem?_map,List.getElem?_eq_getElem hk,List.getD_eq_getElem?_getD,List.getElem?_eq_getElem hk];exact⟨rfl,rfl⟩
theorem clone_c (l:List By) (hl:l.length<1000000):FC Tryz.prog 144 [.s (strsF l)] 0 [] (.s (strsF l)) 0 []:=by
 cases l with
 |nil=>exact⟨by kernel_rfl,SC.split2 (pre:=[]) (post:=[]) (fun φ x h=>frz0_cases h) cloneNil_c cloneEmq_c⟩
 |cons s t=>
  refine FC.walk (by kernel_rfl) Tryz.func144 rfl rfl ?_
  repeat'(first|exact y0|refine y1 ?_|refine y2 ?_ ?_|(refine y8 ?_ ?_<;>intro h<;>try exact y6)|refine Unr.next' rfl ?_|refine RegX.atCmp (CmpG.nn false (Nat.succ_pos _) rfl (.inl ⟨rfl,rfl⟩) rfl rfl ?_)|refine y3 ?_|refine y7 ?_ ?_|refine y4 ?_|(refine y9 ?_ ?_<;>intro h)|exact y5|fail)
  refine RegX.opA [.app (s::t).length ((s::t).map S.str)] rfl rfl ⟨rfl,trivial,rfl,by rw[Nat.zero_add],?_,?_,(fun h=>nomatch h),?_,by omega⟩ ?_
  ·rw[strs_flat,Nat.zero_mul];rfl
  ·rw[strs_flat];exact strs_fit _
  ·rw[show (Tryz.prog.types[9]).bytes=16 by kernel_rfl];omega
  repeat'(first|exact y0|refine y1 ?_|refine y2 ?_ ?_|(refine y8 ?_ ?_<;>intro h<;>try exact y6)|refine Unr.next' rfl ?_|refine Ex.fz 2 (fun k=>[.str ((s::t).getD k [])]) 1 rfl rfl rfl rfl (fun _ _=>rfl) ?_ rfl rfl ?_|refine Fin.le (.inl rfl) rfl (VLe.refl _) rfl|refine y3 ?_|refine y7 ?_ ?_|refine y4 ?_|(refine y9 ?_ ?_<;>intro h)|exact y5|fail)
  intro k j x hk hx;exact strs_get hk hx
theorem growNil_c:FC Tryz.prog 161 [.s (.slc none 0 (some 0)),nI 0] 0 [] (.s (.slc none 0 (some 0))) 0 []:=by
 refine FC.walk (by kernel_rfl) Tryz.func161 rfl rfl ?_
 repeat'(first|exact y0|refine y1 ?_|refine y2 ?_ ?_|(refine y8 ?_ ?_<;>intro h<;>try exact y6)|refine Unr.next' rfl ?_|refine RegX.cap0 rfl rfl rfl ?_|refine Fin.plain (.inl rfl) rfl ?_ rfl|refine y3 ?_|refine y7 ?_ ?_|refine y4 ?_|(refine y9 ?_ ?_<;>intro h)|exact y5|fail)
 all_goals rfl
theorem grow_c (n:Nat) (h0:0<n) (hl:n<4000000):FC Tryz.prog 161 [.s (.slc none 0 (some 0)),nI n] 0 [] (.s (.sla 0 1 0)) 2 [(0,some {cells:=[],ty:=9,more:=true,sym:=true,flat:=true,gh:=some (1,1)})]:=by
 refine FC.walk (by kernel_rfl) Tryz.func161 rfl rfl ?_
 repeat'(first|exact y0|refine y1 ?_|refine y2 ?_ ?_|(refine y8 ?_ ?_<;>intro h<;>try exact y6)|refine Unr.next' rfl ?_|refine RegX.cap0 rfl rfl rfl ?_|refine RegX.nilTo rfl rfl rfl rfl rfl ?_ ?_|refine RegX.mkz n rfl rfl rfl rfl rfl rfl rfl rfl rfl ?_ h0 ?_ (by omega) ?_ ?_|refine y3 ?_|refine y7 ?_ ?_|refine y4 ?_|(refine y9 ?_ ?_<;>intro h)|exact y5|fail)
 ·rw[show (Tryz.prog.types[9]).bytes=16 by kernel_rfl];omega
 ·refine RegX.opA [.win 0 0 []] rfl rfl ⟨rfl,rfl,Nat.le_refl _,Nat.zero_le _,by rw[Nat.zero_mul];exact Nat.zero_le _,rfl⟩ ?_
  repeat'(first|exact y0|refine y1 ?_|refine y2 ?_ ?_|(refine y8 ?_ ?_<;>intro h<;>try exact y6)|refine Unr.next' rfl ?_|exact⟨.inl rfl,_,[2,3],VLe.refl _,EndOK.by rfl ⟨rfl,trivial⟩ rfl rfl rfl rfl⟩|refine y3 ?_|refine y7 ?_ ?_|refine y4 ?_|(refine y9 ?_ ?_<;>intro h)|exact y5|fail)
theorem concat_g (x y:List By) (n m:Nat) (g1 g2:Nat→List S) (hn:x.length=n) (hm':y.length=m) (f1:flatG g1 n=x.map S.str) (f2:flatG g2 m=y.map S.str) (hx:n<1000000) (hy:m<1000000):FC Tryz.prog 145 [.s (.slc (some (0,0)) 2 (some 2))] 1 [(0,some {cells:=[.frz g1 1 n,.frz g2 1 m],ty:=59})] (.s (strsF (x++y))) 1 [(0,some {cells:=[.frz g1 1 n,.frz g2 1 m],ty:=59})]:=by
 refine FC.walk (by kernel_rfl) Tryz.func145 rfl rfl ?_;by_cases h0:n+m=0
 ·obtain rfl:x=[]:=List.eq_nil_of_length_eq_zero (by omega)
  obtain rfl:n=0:=by omega
  obtain rfl:y=[]:=List.eq_nil_of_length_eq_zero (by omega)
  obtain rfl:m=0:=by omega
  repeat'(first|exact y0|refine y1 ?_|refine y2 ?_ ?_|(refine y8 ?_ ?_<;>intro h<;>try exact y6)|(refine wC ?_;first|refine wF 161 (pu growNil_c ?_))|refine Unr.next' rfl ?_|refine Ex.unroll 3 ?_|refine RegX.apNil rfl rfl rfl rfl rfl rfl rfl ?_|refine Ex.set 2 (.s (strsF [])) (VLe.s SLe.nil) rfl ?_|exact⟨.inl rfl,_,[],VLe.refl _,EndOK.by rfl ⟨rfl,trivial⟩ rfl rfl rfl rfl⟩|refine y3 ?_|refine y7 ?_ ?_|refine y4 ?_|(refine y9 ?_ ?_<;>intro h)|exact y5|fail)
 ·
  have htot:(0:Int)+n+m=((n+m:Nat):Int):=by omega
  repeat'(first|exact y0|refine y1 ?_|refine y2 ?_ ?_|(refine y8 ?_ ?_<;>intro h<;>try exact y6)|refine Unr.next' rfl ?_|refine Ex.unroll 3 ?_|refine RegX.atCall (CallG.me [] (grow_c (n+m) (by omega) (by omega)) rfl (args1:=[.s (.slc none 0 (some 0)),nI (0+n+m)]) rfl ⟨VLe.refl _,VLe.of_eq (congrArg nI htot),trivial⟩ trivial rfl rfl rfl ?_)|refine y3 ?_|refine y7 ?_ ?_|refine y4 ?_|(refine y9 ?_ ?_<;>intro h)|exact y5|fail)
  refine RegX.opA [.app n (x.map S.str)] rfl rfl ⟨Nat.le_of_eq (Nat.zero_mul _),trivial,rfl,by rw[Nat.zero_add],?_,?_,(fun h=>nomatch h),?_,by omega⟩ ?_
  ·rw[f1,Nat.zero_mul];rfl
  ·rw[f1];exact strs_fit _
  ·rw[show (Tryz.prog.types[9]).bytes=16 by kernel_rfl];omega
  repeat'(first|exact y0|refine y1 ?_|refine y2 ?_ ?_|(refine y8 ?_ ?_<;>intro h<;>try exact y6)|refine Unr.next' rfl ?_|refine Ex.unroll 3 ?_|refine y3 ?_|refine y7 ?_ ?_|refine y4 ?_|(refine y9 ?_ ?_<;>intro h)|exact y5|fail)
  have hsz1:(Tryz.prog.types[9]).size=1:=by kernel_rfl
  refine RegX.opA [.app (n+m) ((x++y).map S.str)] rfl rfl ⟨?_,trivial,rfl,rfl,?_,?_,(fun h=>nomatch h),?_,by omega⟩ ?_
  ·rw[hsz1];show n*1≤(x.map S.str).length;simp[hn]
  ·rw[f2,hsz1];show _=(x.map S.str).take (n*1)++_;rw[Nat.mul_one,List.take_of_length_le (by simp[hn]),List.map_append]
  ·rw[f2];exact strs_fit _
  ·rw[show (Tryz.prog.types[9]).bytes=16 by kernel_rfl];omega
  repeat'(first|exact y0|refine y1 ?_|refine y2 ?_ ?_|(refine y8 ?_ ?_<;>intro h<;>try exact y6)|refine Unr.next' rfl ?_|refine Ex.fz 2 (fun k=>[.str ((x++y).getD k [])]) 1 rfl rfl rfl rfl (fun _ _=>rfl) ?_ rfl rfl ?_|refine y3 ?_|refine y7 ?_ ?_|refine y4 ?_|(refine y9 ?_ ?_<;>intro h)|exact y5|fail)
  ·intro k j s hk hs
   exact strs_get (by rw[List.length_append];omega) hs
  ·refine⟨.inl rfl,.s (.frz (fun k=>[.str ((x++y).getD k [])]) 1 (n+m)),[],VLe.of_eq ?_,EndOK.by ?_ ?_ rfl rfl rfl rfl⟩
   ·unfold strsF;rw[List.length_append,hn,hm']
   ·rfl
   ·refine⟨?_,trivial⟩
    rfl
set_option maxRecDepth 100000
set_option maxHeartbeats 4000000
theorem valid_facts {p:Pth} (h:validP p=true):0≤p.up∧p.up≤32∧(p.segs.length:Int)≤32-p.up∧(p.root=true→p.up=0)∧p.segs.all isSeg=true∧(p.root=true∨0<p.up∨0<p.segs.length):=by
 unfold validP at h;simp only[Bool.and_eq_true,decide_eq_true_eq,Bool.not_eq_true',Bool.or_eq_true] at h;obtain⟨⟨⟨⟨⟨h1,h2⟩,h3⟩,h4⟩,h5⟩,h6⟩:=h;refine⟨h1,h3,h4,fun hr=>?_,h5,?_⟩
 ·rw[hr] at h2;simpa using h2
 ·rcases h6 with (h|h)|h
  ·exact .inl h
  ·exact .inr (.inl h)
  ·exact .inr (.inr h)
theorem abs_facts {p:Pth} (h:absP p=true):p.root=true∧p.up=0∧p.segs.length≤32:=by
 unfold absP at h;simp only[Bool.and_eq_true] at h;obtain⟨h0,h1⟩:=h;obtain⟨a1,a2,a3,a4,_⟩:=valid_facts h1;have:=a4 h0;exact⟨h0,this,by omega⟩
theorem flat_take (l:List By) {k:Nat} (h:k≤l.length):flatG (fun i=>[S.str (l.getD i [])]) k=(l.take k).map S.str:=by
 induction k with
 |zero=>rfl
 |succ k ih=>rw[flatG_succ,ih (by omega),List.take_add_one,List.map_append,List.getD_eq_getElem?_getD,List.getElem?_eq_getElem (by omega)];rfl
def joinP (b r:Pth):Pth×Bool:=
 if absP b=false∨validP r=false then (z0,false)
 else if r.root then (⟨true,0,r.segs⟩,true)
 else if (b.segs.length:Int)-r.up<0∨32<(b.segs.length:Int)-r.up+r.segs.length then (z0,false)
 else (⟨true,0,b.segs.take ((b.segs.length:Int)-r.up).toNat++r.segs⟩,true)
theorem join_u (br:Bool) (bu:Int) (bs:List By) (rr:Bool) (ru:Int) (rs:List By):
 FC Tryz.prog 98 [.agg [.bool br,.int .i64 bu,strsF bs],.agg [.bool rr,.int .i64 ru,strsF rs]] 0 [] (psV (joinP ⟨br,bu,bs⟩ ⟨rr,ru,rs⟩)) 0 []:=by
 have ha:=absP_u br bu bs;have hv:=validP_u rr ru rs;refine FC.walk (by kernel_rfl) Tryz.func98 rfl rfl ?_
 cases h1:absP ⟨br,bu,bs⟩<;>rw[h1] at ha
 ·
  repeat'(first|exact y0|refine y1 ?_|refine y2 ?_ ?_|(refine y8 ?_ ?_<;>intro h<;>try exact y6)|(refine wC ?_;first|refine wF 142 (bo ha ?_))|refine Fin.le (.inl rfl) rfl (psV_z (by simp[joinP,h1])) rfl|refine y3 ?_|refine y7 ?_ ?_|refine y4 ?_|(refine y9 ?_ ?_<;>intro h)|exact y5|fail)
 cases h2:validP ⟨rr,ru,rs⟩<;>rw[h2] at hv
 ·
  repeat'(first|exact y0|refine y1 ?_|refine y2 ?_ ?_|(refine y8 ?_ ?_<;>intro h<;>try exact y6)|(refine wC ?_;first|refine wF 142 (bo ha ?_)|refine wF 143 (bo hv ?_))|refine Fin.le (.inl rfl) rfl (psV_z (by simp[joinP,h2])) rfl|refine y3 ?_|refine y7 ?_ ?_|refine y4 ?_|(refine y9 ?_ ?_<;>intro h)|exact y5|fail)
 obtain⟨a1,a2,a3⟩:=abs_facts h1;obtain⟨v1,v2,v3,v4,v5,v6⟩:=valid_facts h2;simp only at a1 a2 a3 v1 v2 v3 v4 v5 v6;cases rr
 ·by_cases hn:(bs.length:Int)-ru<0
  ·
   repeat'(first|exact y0|refine y1 ?_|refine y2 ?_ ?_|(refine y8 ?_ ?_<;>intro h<;>try exact y6)|(refine wC ?_;first|refine wF 142 (bo ha ?_)|refine wF 143 (bo hv ?_))|refine Fin.le (.inl rfl) rfl (psV_z (by simp[joinP,h1,h2];omega)) rfl|refine y3 ?_|refine y7 ?_ ?_|refine y4 ?_|(refine y9 ?_ ?_<;>intro h)|exact y5|fail)
  ·obtain⟨k,hk⟩:∃ k:Nat,(bs.length:Int)-ru=(k:Int):=⟨((bs.length:Int)-ru).toNat,by omega⟩
   have hcc:=concat_g (bs.take k) rs k rs.length (fun k=>[.str (bs.getD k [])]) (fun k=>[.str (rs.getD k [])]) (by rw[List.length_take];omega) rfl (flat_take bs (by omega)) (strs_flat rs) (by omega) (by omega)
   repeat'(first|exact y0|refine y1 ?_|refine y2 ?_ ?_|(refine y8 ?_ ?_<;>intro h<;>try exact y6)|(refine wC ?_;first|refine wF 142 (bo ha ?_)|refine wF 143 (bo hv ?_))|refine Ex.set 6 (nI k) (VLe.of_eq (congrArg nI hk)) rfl ?_|refine Fin.le (.inl rfl) rfl (psV_z (by simp[joinP,h1,h2];omega)) rfl|refine y3 ?_|refine y7 ?_ ?_|refine y4 ?_|(refine y9 ?_ ?_<;>intro h)|exact y5|fail)
   refine RegX.atCall (CallG.me [3] hcc rfl rfl ⟨VLe.refl _,trivial⟩ ⟨⟨rfl,_,rfl,rfl,fun h=>h⟩,trivial⟩ rfl rfl rfl ?_)
   repeat'(first|exact y0|refine y1 ?_|refine y2 ?_ ?_|(refine y8 ?_ ?_<;>intro h<;>try exact y6)|refine Fin.le (.inl rfl) rfl (psV_ok ?_) rfl|refine y3 ?_|refine y7 ?_ ?_|refine y4 ?_|(refine y9 ?_ ?_<;>intro h)|exact y5|fail)
   simp only[joinP,h1,h2];rw[if_neg (by simp),if_neg (by simp),if_neg (by omega),hk];rfl
 ·
  have hcl:=clone_c rs (by omega)
  repeat'(first|exact y0|refine y1 ?_|refine y2 ?_ ?_|(refine y8 ?_ ?_<;>intro h<;>try exact y6)|(refine wC ?_;first|refine wF 142 (bo ha ?_)|refine wF 143 (bo hv ?_)|refine wF 144 (pu hcl ?_))|refine Fin.le (.inl rfl) rfl (psV_ok (by simp[joinP,h1,h2])) rfl|refine y3 ?_|refine y7 ?_ ?_|refine y4 ?_|(refine y9 ?_ ?_<;>intro h)|exact y5|fail)
theorem join_c (b r:Pth):FC Tryz.prog 98 [ptV b,ptV r] 0 [] (psV (joinP b r)) 0 []:=join_u b.root b.up b.segs r.root r.up r.segs
theorem take_le {l:List By} {k:Nat} (h:k≤l.length):VLe (.s (.frz (fun i=>[.str (l.getD i [])]) 1 k)) (.s (strsF (l.take k))):=by
 unfold strsF;rw[List.length_take,Nat.min_eq_left h];refine VLe.s (SLe.frz fun i hi=>?_);rw[List.getD_eq_getElem?_getD,List.getD_eq_getElem?_getD,List.getElem?_take,if_pos hi]
def parentP (p:Pth):Pth×Bool:=if absP p=false∨p.segs.length=0 then (z0,false) else (⟨true,0,p.segs.take (p.segs.length-1)⟩,true)
theorem parent_u (br:Bool) (bu:Int) (bs:List By):FC Tryz.prog 148 [.agg [.bool br,.int .i64 bu,strsF bs]] 0 [] (psV (parentP ⟨br,bu,bs⟩)) 0 []:=by
 have ha:=absP_u br bu bs;refine FC.walk (by kernel_rfl) Tryz.func148 rfl rfl ?_
 cases h1:absP ⟨br,bu,bs⟩<;>rw[h1] at ha
 ·
  repeat'(first|exact y0|refine y1 ?_|refine y2 ?_ ?_|(refine y8 ?_ ?_<;>intro h<;>try exact y6)|(refine wC ?_;first|refine wF 142 (bo ha ?_))|refine Fin.le (.inl rfl) rfl (psV_z (by simp[parentP,h1])) rfl|refine y3 ?_|refine y7 ?_ ?_|refine y4 ?_|(refine y9 ?_ ?_<;>intro h)|exact y5|fail)
 obtain⟨a1,a2,a3⟩:=abs_facts h1;simp only at a1 a2 a3;by_cases h0:bs.length=0
 ·
  repeat'(first|exact y0|refine y1 ?_|refine y2 ?_ ?_|(refine y8 ?_ ?_<;>intro h<;>try exact y6)|(refine wC ?_;first|refine wF 142 (bo ha ?_))|refine Fin.le (.inl rfl) rfl (psV_z (by simp[parentP,h1];simp_all;done)) rfl|refine y3 ?_|refine y7 ?_ ?_|refine y4 ?_|(refine y9 ?_ ?_<;>intro h)|exact y5|fail)
 ·
  have hcl:=clone_c (bs.take (bs.length-1)) (by rw[List.length_take];omega)
  have hk:(bs.length:Int)-1=((bs.length-1:Nat):Int):=by omega
  repeat'(first|exact y0|refine y1 ?_|refine y2 ?_ ?_|(refine y8 ?_ ?_<;>intro h<;>try exact y6)|(refine wC ?_;first|refine wF 142 (bo ha ?_))|refine y3 ?_|refine y7 ?_ ?_|refine y4 ?_|(refine y9 ?_ ?_<;>intro h)|exact y5|fail)
  refine RegX.chunkN 6 rfl rfl ?_ (RegX.eqv 19 (congrArg nI hk) rfl ?_)
  all_goals
   repeat'(first|exact y0|refine y1 ?_|refine y2 ?_ ?_|(refine y8 ?_ ?_<;>intro h<;>try exact y6)|refine RegX.atCall (CallG.we hcl rfl ⟨take_le (k:=bs.length-1) (by omega),trivial⟩ rfl rfl rfl ?_)|refine Fin.le (.inl rfl) rfl (psV_ok ?_) rfl|refine y3 ?_|refine y7 ?_ ?_|refine y4 ?_|(refine y9 ?_ ?_<;>intro h)|exact y5|fail)
  unfold parentP;rw[if_neg];simp[h1,h0]
set_option maxRecDepth 100000
set_option maxHeartbeats 1000000
def ptsF (l:List Pth):S:=.frz (fun k=>ptC (l.getD k z0)) 3 l.length
def scP (bs:List By) (live:Bool) (k:Nat):Pth:=if live then ⟨true,0,bs.take k⟩ else z0
def candL (bs:List By) (s:By):Nat→List Pth
 |0=>[⟨true,0,[s]⟩]
 |k+1=>if 32<k+2 then candL bs s k else ⟨true,0,bs.take (k+1)++[s]⟩::candL bs s k
def candP (b r:Pth):List Pth:=
 if absP b=false∨validP r=false then []
 else if r.root=true∨0<r.up∨r.segs.length≠1 then (if (joinP b r).2 then [(joinP b r).1] else [])
 else candL b.segs (r.segs.headD []) b.segs.length
def resS:List Pth→S
 |[]=> .slc none 0 (some 0)
 |p::l=> .sla 3 4 (l.length+1)
def resH:List Pth→Hp
 |[]=>[]
 |p::l=>[(3,some {cells:=(p::l).flatMap ptC,ty:=92,more:=true,sym:=true,flat:=true,gh:=some (4,3)})]
theorem ptC_pure {p:Pth} {j:Nat} {x:S} (h:(ptC p)[j]? =some x):pureS x=true:=by
 unfold ptC at h
 match j,h with
 |0,h=>cases h;rfl
 |1,h=>cases h;rfl
 |2,h=>cases h;rfl
 |j+3,h=>simp at h
theorem pts_get:∀ {l:List Pth} {k j:Nat} {x:S},k<l.length→(ptC (l.getD k z0))[j]? =some x→(l.flatMap ptC)[k*3+j]? =some x∧pureS x=true
 |[],k,j,x,hk,_=>by simp at hk
 |p::l,0,j,x,hk,hx=>by
  refine⟨?_,ptC_pure hx⟩
  have hj:j<(ptC p).length:=by
   rcases Nat.lt_or_ge j (ptC p).length with h|h
   ·exact h
   ·exfalso;simp only[List.getD_cons_zero] at hx;rw[List.getElem?_eq_none h] at hx;cases hx
  rw[Nat.zero_mul,Nat.zero_add,List.flatMap_cons,List.getElem?_append_left hj];exact hx
 |p::l,k+1,j,x,hk,hx=>by
  have:=pts_get (l:=l) (k:=k) (j:=j) (x:=x) (by simpa using hk) hx;refine⟨?_,this.2⟩;rw[List.flatMap_cons,List.getElem?_append_right (by simp[ptC];omega)];rw[show (k+1)*3+j-(ptC p).length=k*3+j by simp[ptC];omega];exact this.1
theorem pts_one (p:Pth):∀ (k j:Nat) (x:S),k<1→(ptC ([p].getD k z0))[j]? =some x→(ptC p)[k*3+j]? =some x∧pureS x=true:=by
 intro k j x hk hx;have:=pts_get (l:=[p]) (k:=k) (j:=j) (x:=x) hk hx
 simpa using this
theorem abs_take {bs:List By} {k:Nat} (h:absP ⟨true,0,bs⟩=true):absP ⟨true,0,bs.take k⟩=true:=by
 unfold absP validP at*;simp only[Bool.and_eq_true,decide_eq_true_eq,Bool.true_and,Bool.true_or,Bool.and_true,List.all_eq_true,List.length_take] at*;obtain⟨⟨⟨⟨h1,h2⟩,h3⟩,h4⟩,h5⟩:=h;refine⟨⟨⟨⟨h1,h2⟩,h3⟩,by omega⟩,fun x hx=>h5 x (List.mem_of_mem_take hx)⟩
theorem join_take {bs:List By} {s0:By} {k:Nat} (h:absP ⟨true,0,bs⟩=true) (hv:validP ⟨false,0,[s0]⟩=true) (hk:k≤bs.length):joinP ⟨true,0,bs.take k⟩ ⟨false,0,[s0]⟩=if 32<k+1 then (z0,false) else (⟨true,0,bs.take k++[s0]⟩,true):=by
 have h1:=abs_take (k:=k) h
 have hl:(bs.take k).length=k:=by rw[List.length_take];omega
 unfold joinP;rw[if_neg (by simp[h1,hv]),if_neg (by simp)];simp only[hl,List.length_singleton];by_cases h32:32<k+1
 ·rw[if_pos h32,if_pos (by omega)]
 ·rw[if_neg h32,if_neg (by omega),Int.sub_zero,Int.toNat_natCast,List.take_take,Nat.min_self]
theorem parent_take {bs:List By} {k:Nat} (h:absP ⟨true,0,bs⟩=true) (hk:k≤bs.length):parentP ⟨true,0,bs.take k⟩=if k=0 then (z0,false) else (⟨true,0,bs.take (k-1)⟩,true):=by
 have h1:=abs_take (k:=k) h
 have hl:(bs.take k).length=k:=by rw[List.length_take];omega
 unfold parentP;simp only[h1,hl];by_cases hk0:k=0
 ·rw[if_pos hk0,if_pos (.inr hk0)]
 ·rw[if_neg hk0,if_neg (by simp[hk0]),List.take_take,Nat.min_eq_left (by omega)]
theorem flat_len:∀ l:List Pth,(l.flatMap ptC).length=l.length*3
 |[]=>rfl
 |p::l=>by rw[List.flatMap_cons,List.length_append,flat_len l];simp only[List.length_cons];simp[ptC];omega
theorem candL_len (bs:List By) (s0:By):∀ k,(candL bs s0 k).length≤k+1
 |0=>by simp[candL]
 |k+1=>by
  have:=candL_len bs s0 k;unfold candL;split
  ·omega
  ·simp only[List.length_cons];omega
theorem cand_u (br:Bool) (bu:Int) (bs:List By) (rr:Bool) (ru:Int) (rs:List By):
 FC Tryz.prog 103 [.agg [.bool br,.int .i64 bu,strsF bs],.agg [.bool rr,.int .i64 ru,strsF rs]] 0 [] (.s (ptsF (candP ⟨br,bu,bs⟩ ⟨rr,ru,rs⟩))) 0 []:=by
 have ha:=absP_u br bu bs;have hv:=validP_u rr ru rs;have hj:=join_u br bu bs rr ru rs;refine FC.walk (by kernel_rfl) Tryz.func103 rfl rfl ?_
 cases h1:absP ⟨br,bu,bs⟩<;>rw[h1] at ha
 ·
  repeat'(first|exact y0|refine y1 ?_|refine y2 ?_ ?_|(refine y8 ?_ ?_<;>intro h<;>try exact y6)|(refine wC ?_;first|refine wF 142 (bo ha ?_))|refine Fin.le (.inl rfl) rfl ?_ rfl|refine y3 ?_|refine y7 ?_ ?_|refine y4 ?_|(refine y9 ?_ ?_<;>intro h)|exact y5|fail)
  simp only[candP,h1];exact VLe.s SLe.nil
 cases h2:validP ⟨rr,ru,rs⟩<;>rw[h2] at hv
 ·
  repeat'(first|exact y0|refine y1 ?_|refine y2 ?_ ?_|(refine y8 ?_ ?_<;>intro h<;>try exact y6)|(refine wC ?_;first|refine wF 142 (bo ha ?_)|refine wF 143 (bo hv ?_))|refine Fin.le (.inl rfl) rfl ?_ rfl|refine y3 ?_|refine y7 ?_ ?_|refine y4 ?_|(refine y9 ?_ ?_<;>intro h)|exact y5|fail)
  simp only[candP,h1,h2];exact VLe.s SLe.nil
 obtain⟨a1,a2,a3⟩:=abs_facts h1;obtain⟨v1,v2,v3,v4,v5,v6⟩:=valid_facts h2;simp only at a1 a2 a3 v1 v2 v3 v4 v5 v6;by_cases hc:rr=true∨0<ru∨rs.length≠1
 ·have hcand:candP ⟨br,bu,bs⟩ ⟨rr,ru,rs⟩=if (joinP ⟨br,bu,bs⟩ ⟨rr,ru,rs⟩).2 then [(joinP ⟨br,bu,bs⟩ ⟨rr,ru,rs⟩).1] else []:=by
   unfold candP;rw[if_neg (by simp[h1,h2]),if_pos hc]
  rw[hcand];generalize joinP ⟨br,bu,bs⟩ ⟨rr,ru,rs⟩=j at*;obtain⟨p,ok⟩:=j;cases ok
  ·cases rr
   ·have hc':0<ru∨rs.length≠1:=by simpa using hc
    repeat'(first|exact y0|refine y1 ?_|refine y2 ?_ ?_|(refine y8 ?_ ?_<;>intro h<;>try exact y6)|(refine wC ?_;first|refine wF 142 (bo ha ?_)|refine wF 143 (bo hv ?_)|refine wF 98 (pu hj ?_))|refine Fin.le (.inl rfl) rfl ?_ rfl|refine y3 ?_|refine y7 ?_ ?_|refine y4 ?_|(refine y9 ?_ ?_<;>intro h)|exact y5|fail)
    all_goals exact VLe.s SLe.nil
   ·
    repeat'(first|exact y0|refine y1 ?_|refine y2 ?_ ?_|(refine y8 ?_ ?_<;>intro h<;>try exact y6)|(refine wC ?_;first|refine wF 142 (bo ha ?_)|refine wF 143 (bo hv ?_)|refine wF 98 (pu hj ?_))|refine Fin.le (.inl rfl) rfl ?_ rfl|refine y3 ?_|refine y7 ?_ ?_|refine y4 ?_|(refine y9 ?_ ?_<;>intro h)|exact y5|fail)
    all_goals exact VLe.s SLe.nil
  ·cases rr
   ·have hc':0<ru∨rs.length≠1:=by simpa using hc
    repeat'(first|exact y0|refine y1 ?_|refine y2 ?_ ?_|(refine y8 ?_ ?_<;>intro h<;>try exact y6)|(refine wC ?_;first|refine wF 142 (bo ha ?_)|refine wF 143 (bo hv ?_)|refine wF 98 (pu hj ?_))|refine RegX.app [.app 1 (ptC p)] rfl rfl ?_ rfl rfl rfl ?_|refine Ex.fz 4 (fun k=>ptC ([p].getD k z0)) 3 rfl rfl rfl rfl (fun k _=>rfl) (pts_one p) rfl rfl ?_|refine Fin.le (.inl rfl) rfl ?_ rfl|refine y3 ?_|refine y7 ?_ ?_|refine y4 ?_|(refine y9 ?_ ?_<;>intro h)|exact y5|fail)
    all_goals first
     |exact VLe.refl _
     |(rw[show (Tryz.prog.types[92]).size=3 by kernel_rfl];exact Nat.le_refl _)
     |(rw[show (Tryz.prog.types[92]).bytes=40 by kernel_rfl];omega)
   ·
    repeat'(first|exact y0|refine y1 ?_|refine y2 ?_ ?_|(refine y8 ?_ ?_<;>intro h<;>try exact y6)|(refine wC ?_;first|refine wF 142 (bo ha ?_)|refine wF 143 (bo hv ?_)|refine wF 98 (pu hj ?_))|refine RegX.app [.app 1 (ptC p)] rfl rfl ?_ rfl rfl rfl ?_|refine Ex.fz 4 (fun k=>ptC ([p].getD k z0)) 3 rfl rfl rfl rfl (fun k _=>rfl) (pts_one p) rfl rfl ?_|refine Fin.le (.inl rfl) rfl ?_ rfl|refine y3 ?_|refine y7 ?_ ?_|refine y4 ?_|(refine y9 ?_ ?_<;>intro h)|exact y5|fail)
    all_goals first
     |exact VLe.refl _
     |(rw[show (Tryz.prog.types[92]).size=3 by kernel_rfl];exact Nat.le_refl _)
     |(rw[show (Tryz.prog.types[92]).bytes=40 by kernel_rfl];omega)
 ·have hr:rr=false:=by cases rr<;>simp_all
  have hu:ru=0:=by
   have: ¬0<ru:=fun h=>hc (.inr (.inl h))
   omega
  have hl:rs.length=1:=Classical.not_not.1 fun h=>hc (.inr (.inr h))
  obtain⟨s0,rfl⟩:∃ s0,rs=[s0]:=List.length_eq_one_iff.1 hl;subst hr hu a1 a2
  have hcand:candP ⟨true,0,bs⟩ ⟨false,0,[s0]⟩=candL bs s0 bs.length:=by
   unfold candP;rw[if_neg (by simp[h1,h2]),if_neg (by simp)];rfl
  rw[hcand]
  repeat'(first|exact y0|refine y1 ?_|refine y2 ?_ ?_|(refine y8 ?_ ?_<;>intro h<;>try exact y6)|(refine wC ?_;first|refine wF 142 (bo ha ?_)|refine wF 143 (bo hv ?_))|refine y3 ?_|refine y7 ?_ ?_|refine y4 ?_|(refine y9 ?_ ?_<;>intro h)|exact y5|fail)
  refine Ex.upN (n':=5) (by omega) ?_
  refine Ex.inv (σ:=Bool×Nat×List Pth) (fun x=>[(5,.s (resS x.2.2)),(8,.s (.ptr (some (2,0)))),(9,.s (.bool x.1))])
   (fun x=>(0,some {cells:=[.bool true,.int .i64 0,strsF bs],ty:=92})::(1,some {cells:=[.bool false,.int .i64 0,strsF [s0]],ty:=92})::(2,some {cells:=ptC (scP bs x.1 x.2.1),ty:=92})::resH x.2.2)
   (fun x=>x.2.1≤bs.length∧x.2.2++(if x.1 then candL bs s0 x.2.1 else [])=candL bs s0 bs.length) (fun x=>if x.1 then x.2.1+1 else 0) (true,bs.length,[]) rfl (fun _=>rfl) ⟨Nat.le_refl _,by simp⟩ ⟨VLe.refl _,VLe.refl _,VLe.refl _,trivial⟩ ⟨rfl,rfl,?_,trivial⟩ ?_
  ·simp only[scP,ptC,if_true,List.take_length];rfl
  ·rintro⟨live,k,done⟩ ⟨i1,i2⟩
   simp only at i1 i2 ⊢;cases live
   ·simp only[Bool.false_eq_true,if_false,List.append_nil] at i2
    subst i2
    cases hd:candL bs s0 bs.length with
    |nil=>
     repeat'(first|exact y0|refine y1 ?_|refine y2 ?_ ?_|(refine y8 ?_ ?_<;>intro h<;>try exact y6)|refine Fin.le (.inl rfl) rfl (VLe.s SLe.nil) rfl|refine y3 ?_|refine y7 ?_ ?_|refine y4 ?_|(refine y9 ?_ ?_<;>intro h)|exact y5|fail)
    |cons d l=>
     repeat'(first|exact y0|refine y1 ?_|refine y2 ?_ ?_|(refine y8 ?_ ?_<;>intro h<;>try exact y6)|refine Ex.fz 4 (fun k=>ptC ((d::l).getD k z0)) 3 rfl rfl rfl rfl (fun k _=>rfl) (fun k j x hk hx=>pts_get hk hx) rfl rfl ?_|refine Fin.le (.inl rfl) rfl (VLe.refl _) rfl|refine y3 ?_|refine y7 ?_ ?_|refine y4 ?_|(refine y9 ?_ ?_<;>intro h)|exact y5|fail)
   ·have hjk:=join_u true 0 (bs.take k) false 0 [s0]
    have hpk:=parent_u true 0 (bs.take k);rw[join_take h1 h2 i1] at hjk;rw[parent_take h1 i1] at hpk;simp only[if_true] at i2
    have hlen:done.length≤33:=by
     have e1:=candL_len bs s0 bs.length;rw[←i2,List.length_append] at e1;omega
    have hsz:(Tryz.prog.types[92]).size=3:=by kernel_rfl
    have hby:(Tryz.prog.types[92]).bytes=40:=by kernel_rfl
    cases k with
    |zero=>
     rw[if_neg (by omega)] at hjk;rw[if_pos rfl] at hpk;simp only[candL] at i2
     cases done with
     |nil=>
      repeat'(first|refine Ex.flat 7 rfl rfl rfl rfl ?_|exact y0|refine y1 ?_|refine y2 ?_ ?_|(refine y8 ?_ ?_<;>intro h<;>try exact y6)|(refine wC ?_;first|refine wF 98 (pu hjk ?_)|refine wF 148 (pu hpk ?_))|refine RegX.app [.app 1 (ptC (Pth.mk true 0 (bs.take 0++[s0])))] rfl rfl ?_ rfl rfl rfl ?_|refine y3 ?_|refine y7 ?_ ?_|refine y4 ?_|(refine y9 ?_ ?_<;>intro h)|exact y5|fail)
      all_goals try first
       |(rw[hsz];exact Nat.le_refl _)
       |(simp only[List.length_append,List.length_cons,List.length_nil];done)
       |(rw[hby];simp only[List.length_cons] at hlen;omega)
       |(rw[hby];simp only[List.length_cons,List.length_append,List.length_nil] at hlen ⊢;omega)
       |(simp only[List.length_cons,List.length_append,List.length_nil] at hlen ⊢;omega)
       |(rw[hsz,flat_len];exact Nat.le_refl _)
       |(rw[hsz,List.flatMap_append];show _=List.take ((d::l).length*3) (List.flatMap ptC (d::l))++_;rw[←flat_len,List.take_length];rfl)
       |(unfold fitsIn;rfl)
      refine LoopR.move (false,0,[Pth.mk true 0 (bs.take 0++[s0])]) ⟨Nat.zero_le _,?_⟩ (by simp) [0,1,9,7,8] rfl ?_ ?_ rfl
      ·simpa using i2
      ·repeat' (first|exact VLe.refl _|exact VLe.any _|exact True.intro|refine⟨?_,?_⟩)
      ·exact⟨rfl,rfl,rfl,rfl,trivial⟩
     |cons d l=>
      repeat'(first|exact y0|refine y1 ?_|refine y2 ?_ ?_|(refine y8 ?_ ?_<;>intro h<;>try exact y6)|(refine wC ?_;first|refine wF 98 (pu hjk ?_)|refine wF 148 (pu hpk ?_))|refine RegX.app [.app ((l++[Pth.mk true 0 (bs.take 0++[s0])]).length+1) ((d::l++[Pth.mk true 0 (bs.take 0++[s0])]).flatMap ptC)] rfl rfl ?_ rfl rfl rfl ?_|refine y3 ?_|refine y7 ?_ ?_|refine y4 ?_|(refine y9 ?_ ?_<;>intro h)|exact y5|fail)
      all_goals try first
       |(rw[hsz];exact Nat.le_refl _)
       |(simp only[List.length_append,List.length_cons,List.length_nil];done)
       |(rw[hby];simp only[List.length_cons] at hlen;omega)
       |(rw[hby];simp only[List.length_cons,List.length_append,List.length_nil] at hlen ⊢;omega)
       |(simp only[List.length_cons,List.length_append,List.length_nil] at hlen ⊢;omega)
       |(rw[hsz,flat_len];exact Nat.le_refl _)
       |(rw[hsz,List.flatMap_append];show _=List.take ((d::l).length*3) (List.flatMap ptC (d::l))++_;rw[←flat_len,List.take_length];rfl)
       |(unfold fitsIn;rfl)
      refine LoopR.move (false,0,(d::l++[Pth.mk true 0 (bs.take 0++[s0])])) ⟨Nat.zero_le _,?_⟩ (by simp) [0,1,9,7,8] rfl ?_ ?_ rfl
      ·simpa using i2
      ·repeat' (first|exact VLe.refl _|exact VLe.any _|exact True.intro|refine⟨?_,?_⟩)
      ·exact⟨rfl,rfl,rfl,rfl,trivial⟩
    |succ k=>
     rw[if_neg (by omega)] at hpk;simp only[candL] at i2;by_cases h32:32<k+2
     ·rw[if_pos h32] at i2
      rw[if_pos (by omega)] at hjk
      cases done with
      |nil=>
       repeat'(first|exact y0|refine y1 ?_|refine y2 ?_ ?_|(refine y8 ?_ ?_<;>intro h<;>try exact y6)|(refine wC ?_;first|refine wF 98 (pu hjk ?_)|refine wF 148 (pu hpk ?_))|refine y3 ?_|refine y7 ?_ ?_|refine y4 ?_|(refine y9 ?_ ?_<;>intro h)|exact y5|fail)
       refine LoopR.move (true,k,[]) ⟨by simp only;omega,?_⟩ (by simp) [0,1,6,3,4] rfl ?_ ?_ rfl
       ·simpa using i2
       ·repeat' (first|exact VLe.refl _|exact VLe.any _|exact True.intro|refine⟨?_,?_⟩)
       ·exact⟨rfl,rfl,rfl,trivial⟩
      |cons d l=>
       repeat'(first|exact y0|refine y1 ?_|refine y2 ?_ ?_|(refine y8 ?_ ?_<;>intro h<;>try exact y6)|(refine wC ?_;first|refine wF 98 (pu hjk ?_)|refine wF 148 (pu hpk ?_))|refine y3 ?_|refine y7 ?_ ?_|refine y4 ?_|(refine y9 ?_ ?_<;>intro h)|exact y5|fail)
       refine LoopR.move (true,k,(d::l)) ⟨by simp only;omega,?_⟩ (by simp) [0,1,6,3,4] rfl ?_ ?_ rfl
       ·simpa using i2
       ·repeat' (first|exact VLe.refl _|exact VLe.any _|exact True.intro|refine⟨?_,?_⟩)
       ·exact⟨rfl,rfl,rfl,rfl,trivial⟩
     ·rw[if_neg h32] at i2
      rw[if_neg (by omega)] at hjk
      cases done with
      |nil=>
       repeat'(first|refine Ex.flat 7 rfl rfl rfl rfl ?_|exact y0|refine y1 ?_|refine y2 ?_ ?_|(refine y8 ?_ ?_<;>intro h<;>try exact y6)|(refine wC ?_;first|refine wF 98 (pu hjk ?_)|refine wF 148 (pu hpk ?_))|refine RegX.app [.app 1 (ptC (Pth.mk true 0 (bs.take (k+1)++[s0])))] rfl rfl ?_ rfl rfl rfl ?_|refine y3 ?_|refine y7 ?_ ?_|refine y4 ?_|(refine y9 ?_ ?_<;>intro h)|exact y5|fail)
       all_goals try first
        |(rw[hsz];exact Nat.le_refl _)
        |(simp only[List.length_append,List.length_cons,List.length_nil];done)
        |(rw[hby];simp only[List.length_cons] at hlen;omega)
        |(rw[hby];simp only[List.length_cons,List.length_append,List.length_nil] at hlen ⊢;omega)
        |(simp only[List.length_cons,List.length_append,List.length_nil] at hlen ⊢;omega)
        |(rw[hsz,flat_len];exact Nat.le_refl _)
        |(rw[hsz,List.flatMap_append];show _=List.take ((d::l).length*3) (List.flatMap ptC (d::l))++_;rw[←flat_len,List.take_length];rfl)
        |(unfold fitsIn;rfl)
       refine LoopR.move (true,k,[Pth.mk true 0 (bs.take (k+1)++[s0])]) ⟨by simp only;omega,?_⟩ (by simp) [0,1,9,7,8] rfl ?_ ?_ rfl
       ·simpa using i2
       ·repeat' (first|exact VLe.refl _|exact VLe.any _|exact True.intro|refine⟨?_,?_⟩)
       ·exact⟨rfl,rfl,rfl,rfl,trivial⟩
      |cons d l=>
       repeat'(first|exact y0|refine y1 ?_|refine y2 ?_ ?_|(refine y8 ?_ ?_<;>intro h<;>try exact y6)|(refine wC ?_;first|refine wF 98 (pu hjk ?_)|refine wF 148 (pu hpk ?_))|refine RegX.app [.app ((l++[Pth.mk true 0 (bs.take (k+1)++[s0])]).length+1) ((d::l++[Pth.mk true 0 (bs.take (k+1)++[s0])]).flatMap ptC)] rfl rfl ?_ rfl rfl rfl ?_|refine y3 ?_|refine y7 ?_ ?_|refine y4 ?_|(refine y9 ?_ ?_<;>intro h)|exact y5|fail)
       all_goals try first
        |(rw[hsz];exact Nat.le_refl _)
        |(simp only[List.length_append,List.length_cons,List.length_nil];done)
        |(rw[hby];simp only[List.length_cons] at hlen;omega)
        |(rw[hby];simp only[List.length_cons,List.length_append,List.length_nil] at hlen ⊢;omega)
        |(simp only[List.length_cons,List.length_append,List.length_nil] at hlen ⊢;omega)
        |(rw[hsz,flat_len];exact Nat.le_refl _)
        |(rw[hsz,List.flatMap_append];show _=List.take ((d::l).length*3) (List.flatMap ptC (d::l))++_;rw[←flat_len,List.take_length];rfl)
        |(unfold fitsIn;rfl)
       refine LoopR.move (true,k,(d::l++[Pth.mk true 0 (bs.take (k+1)++[s0])])) ⟨by simp only;omega,?_⟩ (by simp) [0,1,9,7,8] rfl ?_ ?_ rfl
       ·simpa using i2
       ·repeat' (first|exact VLe.refl _|exact VLe.any _|exact True.intro|refine⟨?_,?_⟩)
       ·exact⟨rfl,rfl,rfl,rfl,trivial⟩
theorem cand_c (b r:Pth):FC Tryz.prog 103 [ptV b,ptV r] 0 [] (.s (ptsF (candP b r))) 0 []:=cand_u b.root b.up b.segs r.root r.up r.segs
set_option maxRecDepth 100000
set_option maxHeartbeats 1000000
inductive Ends (p:List Nd) (e:Nat):Nat→Nat→Prop
 |done:Ends p e 0 e
 |step {n i:Nat} (h:i<p.length) (k:Nat) (hk:(p.getD i dN).kids=k) (r:Ends p e (n+k) (i+1)):Ends p e (n+1) i
theorem kinds_len (op kids:Int) (h:(kindsB op kids).2=true):((kindsB op kids).1.length:Int)=kids:=by
 unfold kindsB at*;split at h
 ·split at h
  ·cases h
  ·rename_i h5 h7
   simp only[if_pos h5,if_neg h7,List.length_take];show ((min kids.toNat 7:Nat):Int)=kids;omega
 ·split at h
  ·split at h
   ·cases h
   ·rename_i h5 h33 h7
    simp only[if_neg h5,if_pos h33,if_neg h7,List.length_take];show ((min kids.toNat 7:Nat):Int)=kids;omega
  ·split at h
   ·rename_i h5 h33 h31
    simp only[if_neg h5,if_neg h33,if_pos h31];show (3:Int)=kids;omega
   ·rename_i h5 h33 h31
    simp only[if_neg h5,if_neg h33,if_neg h31]
    simpa using h
theorem Ends.kids {p:List Nd} {ch:Int→Nat→Option Nat} (hch:∀ k i e,ch k i=some e→∀ n e',Ends p e' n e→Ends p e' (n+1) i):∀ (ks:By) (i e:Nat),kidsF ch ks i=some e→∀ n e',Ends p e' n e→Ends p e' (n+ks.length) i
 |[],i,e,h,n,e',r=>by simp only[kidsF,Option.some.injEq] at h;subst h;exact r
 |k::ks,i,e,h,n,e',r=>by
  simp only[kidsF] at h;split at h
  ·rename_i e1 h1
   exact hch _ _ _ h1 _ _ (Ends.kids hch ks e1 e h n e' r)
  ·cases h
theorem Ends.block {p:List Nd} {rec:Nat→Option Nat} (hr:∀ i e,rec i=some e→∀ n e',Ends p e' n e→Ends p e' (n+1) i):∀ (k i e:Nat),blockF rec k i=some e→∀ n e',Ends p e' n e→Ends p e' (n+k) i
 |0,i,e,h,n,e',r=>by simp only[blockF,Option.some.injEq] at h;subst h;exact r
 |k+1,i,e,h,n,e',r=>by
  simp only[blockF] at h;split at h
  ·rename_i e1 h1
   exact hr _ _ h1 _ _ (Ends.block hr k e1 e h n e' r)
  ·cases h
def EndsP (p:List Nd) (E:Nat→Int→Option Nat):Prop:=∀ i k e,E i k=some e→∀ n e',Ends p e' n e→Ends p e' (n+1) i
theorem Ends.elemS {p:List Nd} {ok:Bool} {E0 E1:Nat→Int→Option Nat} (h0:EndsP p E0) (h1:EndsP p E1):EndsP p (elemS p ok E0 E1):=by
 intro i k e h n e' r;unfold Go.Proofs.YtphdhedhhlfepaaGreatDoor.elemS at h;split at h
 ·cases h
 ·rename_i x hx
  split at h
  ·rename_i hc
   have hi:i<p.length:=by
    rcases Nat.lt_or_ge i p.length with q|q
    ·exact q
    ·rw[List.getElem?_eq_none q] at hx;cases hx
   have hxe:p.getD i dN=x:=by rw[List.getD_eq_getElem?_getD,hx];rfl
   refine Ends.step hi (kindsB x.op x.kids).1.length (by rw[hxe];exact (kinds_len _ _ hc.2.2).symm) ?_;refine Ends.kids (fun k i e hch n e' r=>?_) _ _ _ h n e' r;unfold childF at hch;split at hch
   ·split at hch
    ·cases hch
    ·rename_i y hy
     split at hch
     ·rename_i hb
      have hi2:i<p.length:=by
       rcases Nat.lt_or_ge i p.length with q|q
       ·exact q
       ·rw[List.getElem?_eq_none q] at hy;cases hy
      have hye:p.getD i dN=y:=by rw[List.getD_eq_getElem?_getD,hy];rfl
      refine Ends.step hi2 y.kids.toNat (by rw[hye];have:=hb.2.2.2.2;omega) ?_;exact Ends.block (fun i e h=>h1 i k e h) _ _ _ hch n e' r
     ·cases hch
   ·exact h0 i k e hch n e' r
  ·cases h
theorem Ends.elemF {p:List Nd}:∀ f,EndsP p (elemF p f)∧EndsP p (Go.Proofs.YtphdhedhhlfepaaGreatDoor.elemF p (f+1))
 |0=>by
  refine⟨fun i k e h=>(by cases h),?_⟩;rw[elemF_succ];exact Ends.elemS (fun i k e h=>by cases h) (fun i k e h=>by cases h)
 |f+1=>by
  have ih:=Ends.elemF (p:=p) f;refine⟨ih.2,?_⟩;rw[elemF_succ];exact Ends.elemS ih.2 ih.1
theorem Ends.le {p:List Nd} {e n i:Nat} (h:Ends p e n i):i+n≤e∧(i≤p.length→e≤p.length):=by
 induction h with
 |done=>exact⟨Nat.le_refl _,id⟩
 |step h k hk r ih=>exact⟨by omega,fun _=>ih.2 (by omega)⟩
abbrev anP (p:List Nd):Hp:=[(0,some {cells:=[.frz (fun k=>ndC (p.getD k dN)) 4 p.length],ty:=67,more:=true,ro:=true})]
theorem end_c (p:List Nd) (hp:p.length≤2048) (i e:Nat) (h:Ends p e 1 i):FC Tryz.prog 101 [.s (.ptr (some (0,0))),nI i] 1 (anP p) (nI e) 1 (anP p):=by
 refine FC.walk (by kernel_rfl) Tryz.func101 rfl rfl ?_
 repeat'(first|exact y0|refine y1 ?_|refine y2 ?_ ?_|(refine y8 ?_ ?_<;>intro h<;>try exact y6)|refine y3 ?_|refine y7 ?_ ?_|refine y4 ?_|(refine y9 ?_ ?_<;>intro h)|exact y5|fail)
 refine Ex.inv (σ:=Nat×Nat) (fun x=>[(1,nI x.2),(5,nI x.1)]) (fun x=>anP p) (fun x=>Ends p e x.1 x.2) (fun x=>p.length-x.2+(if x.1=0 then 0 else 1)) (1,i) rfl (fun _=>rfl) h ⟨VLe.refl _,VLe.refl _,trivial⟩ ⟨rfl,trivial⟩ ?_;rintro⟨n,j⟩ hE;simp only at hE ⊢
 cases hE with
 |done=>
  repeat'(first|exact y0|refine y1 ?_|refine y2 ?_ ?_|(refine y8 ?_ ?_<;>intro h<;>try exact y6)|exact⟨.inl rfl,_,[],VLe.refl _,EndOK.by rfl ⟨rfl,trivial⟩ rfl rfl rfl rfl⟩|refine y3 ?_|refine y7 ?_ ?_|refine y4 ?_|(refine y9 ?_ ?_<;>intro h)|exact y5|fail)
 | @step n1 _ hlt k hk r=>
   obtain⟨l1,l2⟩:=r.le;have l3:=l2 (by omega)
   repeat'(first|exact y0|refine y1 ?_|refine y2 ?_ ?_|(refine y8 ?_ ?_<;>intro h<;>try exact y6)|refine y3 ?_|refine y7 ?_ ?_|refine y4 ?_|(refine y9 ?_ ?_<;>intro h)|exact y5|fail)
   all_goals try first
    |exact i64_in (by omega) (by omega)
   refine LoopR.same (n1+k,j+1) r ?_ rfl ⟨VLe.of_eq (congrArg nI ?_),VLe.of_eq (congrArg nI ?_),trivial⟩ ⟨rfl,trivial⟩ rfl rfl (by decide)
   ·simp only
    rw[if_neg (Nat.succ_ne_zero n1)]
    split<;>omega
   ·push_cast;rfl
   ·push_cast;omega
set_option maxRecDepth 100000
set_option maxHeartbeats 1000000
inductive Chain (p:List Nd) (f:Nat):Nat→List Nat→Prop
 |nil:Chain p f f []
 |cons {j e:Nat} {l:List Nat} (h:Ends p e 1 j) (r:Chain p f e l):Chain p f j (j::l)
def intsF (l:List Nat):S:=.frz (fun k=>[.int .i64 ((l.getD k 0:Nat):Int)]) 1 l.length
abbrev intC (l:List Nat):List S:=l.map fun (j:Nat)=>S.int .i64 (j:Int)
def chS:List Nat→S
 |[]=> .slc (some (1,0)) 0 (some 8)
 |_::l=> .sla 1 2 (l.length+1)
def chB:List Nat→Bl
 |[]=>{cells:=List.replicate 8 (.int .i64 0),ty:=3,sym:=true,flat:=true}
 |j::l=>{cells:=intC (j::l),ty:=3,more:=true,sym:=true,flat:=true,gh:=some (2,1)}
theorem ints_get {l:List Nat} {k j:Nat} {x:S} (hk:k<l.length) (hx:[S.int .i64 ((l.getD k 0:Nat):Int)][j]? =some x):(intC l)[k*1+j]? =some x∧pureS x=true:=by
 cases j with
 |succ j=>simp at hx
 |zero=>
  simp only[List.getElem?_cons_zero,Option.some.injEq] at hx;subst hx;rw[Nat.mul_one,Nat.add_zero,List.getElem?_map,List.getElem?_eq_getElem hk,List.getD_eq_getElem?_getD,List.getElem?_eq_getElem hk];exact⟨rfl,rfl⟩
theorem children_c (p:List Nd) (hp:p.length≤2048) (i f:Nat) (hi:i<p.length) (cs:List Nat) (hk:(p.getD i dN).kids=(cs.length:Nat)) (hc:Chain p f (i+1) cs) (hl:cs.length≤2048):
 FC Tryz.prog 102 [.s (.ptr (some (0,0))),nI i] 1 (anP p) (.s (intsF cs)) 1 (anP p):=by
 refine FC.walk (by kernel_rfl) Tryz.func102 rfl rfl ?_
 repeat'(first|exact y0|refine y1 ?_|refine y2 ?_ ?_|(refine y8 ?_ ?_<;>intro h<;>try exact y6)|refine y3 ?_|refine y7 ?_ ?_|refine y4 ?_|(refine y9 ?_ ?_<;>intro h)|exact y5|fail)
 refine RegX.opA [.idx 0,.idx 8] rfl rfl ⟨rfl,rfl,by decide,?_,by decide⟩ ?_
 ·rw[show (Tryz.prog.types[3]).bytes=8 by kernel_rfl];decide
 repeat'(first|exact y0|refine y1 ?_|refine y2 ?_ ?_|(refine y8 ?_ ?_<;>intro h<;>try exact y6)|refine y3 ?_|refine y7 ?_ ?_|refine y4 ?_|(refine y9 ?_ ?_<;>intro h)|exact y5|fail)
 refine Ex.set 7 .any (VLe.any _) rfl (Ex.upN (n':=3) (by omega) ?_);refine Ex.inv (σ:=List Nat×Nat×List Nat) (fun x=>[(5,.s (chS x.1)),(6,nI x.2.1),(18,nI x.1.length)]) (fun x=>(0,some {cells:=[.frz (fun k=>ndC (p.getD k dN)) 4 p.length],ty:=67,more:=true,ro:=true})::(1,some (chB x.1))::[]) (fun x=>x.1++x.2.2=cs∧Chain p f x.2.1 x.2.2) (fun x=>x.2.2.length) ([],i+1,cs) rfl (fun _=>rfl) ⟨rfl,hc⟩ ⟨VLe.refl _,VLe.refl _,VLe.refl _,trivial⟩ ⟨rfl,rfl,trivial⟩ ?_;rintro⟨done,j,rest⟩ ⟨h1,h2⟩;simp only at h1 h2 ⊢;rw[hk]
 cases h2 with
 |nil=>
  rw[List.append_nil] at h1;subst h1
  cases done with
  |nil=>
   repeat'(first|exact y0|refine y1 ?_|refine y2 ?_ ?_|(refine y8 ?_ ?_<;>intro h<;>try exact y6)|refine Ex.set 4 (.s (intsF [])) (VLe.s SLe.slcfrz) rfl ?_|exact⟨.inl rfl,_,[],VLe.refl _,EndOK.by rfl ⟨rfl,trivial⟩ rfl rfl rfl rfl⟩|refine y3 ?_|refine y7 ?_ ?_|refine y4 ?_|(refine y9 ?_ ?_<;>intro h)|exact y5|fail)
  |cons d l=>
   repeat'(first|exact y0|refine y1 ?_|refine y2 ?_ ?_|(refine y8 ?_ ?_<;>intro h<;>try exact y6)|refine Ex.fz 4 (fun k=>[.int .i64 (((d::l).getD k 0:Nat):Int)]) 1 rfl rfl rfl rfl (fun _ _=>rfl) ?_ rfl rfl ?_|exact⟨.inl rfl,_,[],VLe.refl _,EndOK.by rfl ⟨rfl,trivial⟩ rfl rfl rfl rfl⟩|refine y3 ?_|refine y7 ?_ ?_|refine y4 ?_|(refine y9 ?_ ?_<;>intro h)|exact y5|fail)
   exact fun k j x hk hx=>ints_get hk hx
 | @cons _ e rest he r=>
   have hlen:done.length+(rest.length+1)=cs.length:=by rw[←h1];simp
   have hsz:(Tryz.prog.types[3]).size=1:=by kernel_rfl
   have hby:(Tryz.prog.types[3]).bytes=8:=by kernel_rfl
   have hend:=end_c p hp j e he
   cases done with
   |nil=>
    repeat'(first|exact y0|refine y1 ?_|refine y2 ?_ ?_|(refine y8 ?_ ?_<;>intro h<;>try exact y6)|refine RegX.app [.app 1 (intC [j])] rfl rfl ?_ rfl rfl rfl ?_|refine RegX.atCall (cm hend ?_)|refine y3 ?_|refine y7 ?_ ?_|refine y4 ?_|(refine y9 ?_ ?_<;>intro h)|exact y5|fail)
    all_goals try first
     |(rw[hsz];exact Nat.le_refl _)
     |(rw[hby];omega)
    refine LoopR.move ([j],e,rest) ⟨by simpa using h1,r⟩ (by simp) [0,4,5] rfl ?_ ?_ rfl
    ·repeat' (first|exact VLe.refl _|exact VLe.any _|exact True.intro|refine⟨?_,?_⟩)
    ·exact⟨rfl,rfl,trivial⟩
   |cons d l=>
    have hlen':l.length+1+(rest.length+1)=cs.length:=hlen
    repeat'(first|exact y0|refine y1 ?_|refine y2 ?_ ?_|(refine y8 ?_ ?_<;>intro h<;>try exact y6)|refine RegX.app [.app ((l++[j]).length+1) (intC (d::l++[j]))] rfl rfl ?_ rfl rfl rfl ?_|refine RegX.atCall (cm hend ?_)|refine y3 ?_|refine y7 ?_ ?_|refine y4 ?_|(refine y9 ?_ ?_<;>intro h)|exact y5|fail)
    all_goals try first
     |(rw[hsz];exact Nat.le_refl _)
     |(simp only[List.length_append,List.length_cons,List.length_nil];done)
     |(rw[hby];simp only[List.length_append,List.length_cons,List.length_nil];omega)
     |(simp only[List.length_append,List.length_cons,List.length_nil];omega)
     |(rw[hsz];show (l.length+1)*1≤(intC (d::l)).length;simp)
     |(rw[hsz];show intC (d::l++[j])=List.take ((l.length+1)*1) (intC (d::l))++_;rw[List.take_of_length_le (by simp),intC,List.map_append];rfl)
     |(unfold fitsIn;rfl)
    refine LoopR.move (d::l++[j],e,rest) ⟨by simpa using h1,r⟩ (by simp) [0,4,5] rfl ?_ ?_ rfl
    ·repeat' (first|exact VLe.refl _|exact VLe.any _|exact True.intro|exact VLe.of_eq (congrArg nI (by simp))|refine⟨?_,?_⟩)
    ·exact⟨rfl,rfl,trivial⟩
set_option maxRecDepth 100000
set_option maxHeartbeats 1000000
theorem pathAt_c (p:List Nd) (hw:wfN p) (i:Nat) (hi:i<p.length):
 FC Tryz.prog 62 [.s (.ptr (some (0,0))),nI i] 1 (anP p) (ptV (parseP (p.getD i dN).str).1) 1 (anP p):=by
 have hpp:=parseP_c (p.getD i dN).str (wf_get hw i);refine FC.walk (by kernel_rfl) Tryz.func62 rfl rfl ?_
 repeat'(first|exact y0|refine y1 ?_|refine y2 ?_ ?_|(refine y8 ?_ ?_<;>intro h<;>try exact y6)|(refine wC ?_;first|refine wF 104 (pu hpp ?_))|exact⟨.inl rfl,_,[],VLe.refl _,EndOK.by rfl ⟨rfl,trivial⟩ rfl rfl rfl rfl⟩|refine y3 ?_|refine y7 ?_ ?_|refine y4 ?_|(refine y9 ?_ ?_<;>intro h)|exact y5|fail)
end Go.Proofs.YtphdhedhhlfepaaGreatDoor
