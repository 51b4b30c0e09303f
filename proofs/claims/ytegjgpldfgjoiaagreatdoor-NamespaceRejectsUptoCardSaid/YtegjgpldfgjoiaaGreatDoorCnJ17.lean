import Derived.Test.YtegjgpldfgjoiaaGreatDoorCnJ14
import Derived.Test.YtegjgpldfgjoiaaGreatDoorCnJ13
import Derived.Shelf.SlIterI.Sorted
import Derived.Shelf.SortM.Plain
import Derived.Shelf.SortM.SortNone
import Derived.Shelf.SlMaps.Clone
set_option linter.all false
set_option maxHeartbeats 40000000
set_option maxRecDepth 100000
namespace Go.Proofs.YtegjgpldfgjoiaaGreatDoor
namespace Ab
open Go
section
variable {L:Hp} {i o:Nat} {bl:Bl}
theorem xi {α β:Type} {r:α->β->Prop}:∀ {l:List α} {xs:List β} {o:Nat} {s:α},All2 r l xs->l[o]? =some s->∃ x,xs[o]? =some x/\r s x
 |[],_,o,s,_,h=>by grind
 |a::l,x::xs,0,s,h,hs=>by
  simp only[Z11,Z06] at hs;subst hs;exact⟨x,rfl,h.1⟩
 |a::l,x::xs,o+1,s,h,hs=>by
  simp only[Z23] at hs |-;exact xi h.2 hs
 |_::_,[],_,_,h,_=>h.elim
def mc (bl:Bl) (o:Nat) (x:S):Bl:={bl with cells:=bl.cells.set o x}
theorem lF {x:S} (hl:lk L i=some bl) {j:Nat} {c:Bl} (h:lk (put L i (some (mc bl o x))) j=some c):∃ c',lk L j=some c'/\c'.ro=c.ro/\(j≠i->c'=c):=by
 rw[aC] at h;split at h
 ·rename_i e;subst e;cases h;exact⟨bl,hl,rfl,λq=>absurd rfl q⟩
 all_goals grind
theorem lG {x:S} (hl:lk L i=some bl) {j:Nat} {c:Bl} (h:lk L j=some c):∃ c',lk (put L i (some (mc bl o x))) j=some c'/\c'.ro=c.ro/\(j≠i->c'=c):=by
 rw[aC];split
 ·rename_i e;subst e;rw[hl] at h;cases h;exact⟨_,rfl,rfl,λq=>absurd rfl q⟩
 all_goals grind
theorem tj {φ:Ph} {x:S} (hl:lk L i=some bl) {b:Nat}:Wr φ (put L i (some (mc bl o x))) b↔Wr φ L b:=by
 constructor
 ·rintro⟨j,c,q,h1,h2,h3,h4⟩
  obtain⟨c',k1,k2,_⟩:=lF hl h1;exact⟨j,c',q,k1,h2,h3,k2.trans h4⟩
 ·rintro⟨j,c,q,h1,h2,h3,h4⟩
  obtain⟨c',k1,k2,_⟩:=lG (o:=o) (x:=x) hl h1;exact⟨j,c',q,k1,h2,h3,k2.trans h4⟩
theorem SC.cst {P:Program} {f:FuncId} {args:List V} {n:Nat} {v:V} {n':Nat} {L':Hp} {i' o':Nat} {bl':Bl} {s:S} (hl:lk L i=some bl) (ho:bl.cells[o]? =some s) (hl':lk L' i'=some bl') (ho':bl'.cells[o']? =some s) (hj:Az s=false) (hf:bl.flat=false) (hf':bl'.flat=false)
 (sc:∀ x:Value,gu x=true->SC P f args n (put L i (some (mc bl o (.cst x)))) v n' (put L' i' (some (mc bl' o' (.cst x))))):SC P f args n L v n' L':=by
 intro φ xs w hx hg hfr;obtain⟨b,hb,hat⟩:=hg.hr i bl hl;obtain⟨pre,cs,rest,fr,h1,h2,h3,h4,h5,h6⟩:=hat
 have eph:∀ φ:Ph,bl.ph φ=φ:=λφ=>by unfold Bl.ph;rw[hf]
 have eph':∀ φ:Ph,bl'.ph φ=φ:=λφ=>by unfold Bl.ph;rw[hf']
 obtain⟨x,hx1,hx2⟩:=xi h3 ho;rw[eph] at hx2;have hc:gu x=true:=hx2.cell hj
 have at1:BlAt φ w b (mc bl o (.cst x)):=⟨pre,cs,rest,fr,h1,h2,fE h3 (λy hy=>by rw[hx1] at hy;cases hy;exact⟨rfl,hc⟩),h4,h5,h6⟩
 have hg1:Good φ (put L i (some (mc bl o (.cst x)))) w:=by
  refine⟨λj c h=>?_,λj k c c' q q' h k1 k2 k3 k4=>?_,λb l h=>⟨(hg.fz b l h).1,λhw=>(hg.fz b l h).2 ((tj hl).1 hw)⟩,hg.gz⟩
  ·grind [aC,hg.hr]
  ·obtain⟨d,e1,e2,_⟩:=lF hl h
   obtain⟨d',e1',e2',_⟩:=lF hl k1
   rcases hg.inj j k d d' q q' e1 e1' k2 k3 k4 with e|⟨e,e'⟩
   all_goals grind
 refine (sc x hc φ xs w hx hg1 hfr).mono ?_;rintro e w' ⟨φ',y,he,hv,hg',hn,st,hle,hag⟩
 have hle2:φ.le φ':=⟨λj q hjq=>by
  by_cases h:j<n
  ·rw[hag j h];exact hjq
  ·rw[hfr j aa] at hjq;exact (by cases hjq),st.zle⟩
 have lk1:lk (put L' i' (some (mc bl' o' (.cst x)))) i'=some (mc bl' o' (.cst x)):=by rw[aC,if_pos rfl]
 obtain⟨b',hb',pre',cs',rest',fr',g1,g2,g3,g4,g5,g6⟩:=hg'.hr i' _ lk1
 have at2:BlAt φ' w' b' bl':=by
  refine⟨pre',cs',rest',fr',g1,g2,?_,g4,g5,g6⟩
  have hlt:o'<bl'.cells.length:=by
   grind
  have g3':All2 (Sr (bl'.ph φ')) (bl'.cells.set o' (.cst x)) cs':=g3
  have hback:bl'.cells=(bl'.cells.set o' (.cst x)).set o' s:=by
   refine Z2i λj=>?_
   grind
  rw[hback]
  refine fE g3' λz hz=>?_
  have hz1:Sr (bl'.ph φ') (.cst x) z:=gO g3' ae hz;obtain⟨rfl,_⟩:=hz1;rw[eph'];exact hx2.mono hle2
 have hg2:Good φ' L' w':=by
  refine⟨λj c h=>?_,λj k c c' q q' h k1 k2 k3 k4=>?_,λb l h=>⟨(hg'.fz b l h).1,λhw=>(hg'.fz b l h).2 ((tj hl').2 hw)⟩,hg'.gz⟩
  ·by_cases e:i'=j
   ·grind
   ·exact hg'.hr j c (by rw[aC,if_neg e];exact h)
  ·obtain⟨d,e1,e2,_⟩:=lG (o:=o') (x:=.cst x) hl' h
   obtain⟨d',e1',e2',_⟩:=lG (o:=o') (x:=.cst x) hl' k1
   rcases hg'.inj j k d d' q q' e1 e1' k2 k3 k4 with e|⟨e,e'⟩
   all_goals grind
 refine⟨φ',y,he,hv,hg2,hn,⟨st.os,st.tape,st.output,st.size,λq hq hw=>st.keep q hq λh=>hw ((tj hl).1 h),λj c q h k1 k2=>?_,st.zle,λq l h=>?_⟩,hle,hag⟩
 ·obtain⟨d,e1,e2,_⟩:=lG (o:=o') (x:=.cst x) hl' h
  obtain⟨k,c1,q1,r1,r2,r3,r4,r5⟩:=st.fresh j d q e1 k1 k2;obtain⟨d1,f1,f2,_⟩:=lF hl r1;exact⟨k,d1,q1,f1,r2,r3,λh=>e2▸r4 (f2▸h),r5.imp id λh=>f2.trans h⟩
 ·rcases st.zfr q l h with h|h|h
  ·exact .inl h
  ·grind
  ·exact .inr (.inr ((tj hl).1 h))
end
section
variable {m:Nat}
section
variable {P:Program} {b:Nat} {env:List V} {n:Nat} {L:Hp} {R:Post} {c:Code}
theorem Ex.capS (t i z:Nat) {K:Nat} {bli:Bl} (ht:env.getD t .undef=.s (.slc (some (i,0)) m (some K))) (hli:lk L i=some bli) (hgh:bli.gh=none) (hK:K*z<=bli.cells.length)
 {env':List V} (he:env.set t (.s (.sla i n m))=env') {L':Hp} (hL:put L i (some {bli with gh:=some (n,z)})=L') (k:Ex P b c env' (n+1) L' R):Ex P b c env n L R:=by
 subst hL;subst he;intro φ a w h1 h2 h3 h4
 have hle:φ.le ⟨λx=>if x=n then some (K,0) else φ x,φ.z⟩:=⟨λx y hx=>by
  have:x≠n:=λe=>by rw[e,h3 n (Z02 _)] at hx;cases hx
  show (if x=n then _ else _)=_
  rw[if_neg this];exact hx,λ_ _ h=>h⟩
 have hn:(⟨λx=>if x=n then some (K,0) else φ x,φ.z⟩:Ph) n=some (K,0):=ae
 have hne:∀ x,x≠n->(⟨λx=>if x=n then some (K,0) else φ x,φ.z⟩:Ph) x=φ x:=λx hx=>by grind
 have hz:(⟨λx=>if x=n then some (K,0) else φ x,φ.z⟩:Ph).z=φ.z:=rfl;generalize (⟨λx=>if x=n then some (K,0) else φ x,φ.z⟩:Ph)=φ' at hle hn hne hz
 have back:∀ x bx,lk (put L i (some {bli with gh:=some (n,z)})) x=some bx->∃ b0,lk L x=some b0/\bx.ro=b0.ro:=by
  grind [aC]
 have num:∀ x b0,lk L x=some b0->x≠n:=λx b0 hx e=>by
  grind [h2.hr]
 have wr1:∀ x,Wr φ' (put L i (some {bli with gh:=some (n,z)})) x->Wr φ L x:=by
  rintro x ⟨jj,bj,d,q1,q2,q3,q4⟩;obtain⟨b0,r1,r2⟩:=back jj bj q1;exact⟨jj,b0,d,r1,ae,q3,r2▸q4⟩
 have good2:Good φ' (put L i (some {bli with gh:=some (n,z)})) w:=by
  refine⟨λx bx hx=>?_,λx y bx by' b1 b2 hx hy hb1 hb2 e=>?_,λx l hx=>⟨(h2.fz x l (hz▸hx)).1,λhw=>(h2.fz x l (hz▸hx)).2 (wr1 x hw)⟩,by rw[hz];exact h2.gz⟩
  ·rw[aC] at hx
   split at hx
   ·rename_i e;subst e;cases hx
    obtain⟨b0,hb0,pre,xs,rest,fr,p1,p2,p3,p4,p5,p6,p7⟩:=h2.hr i bli hli;refine⟨b0,hle _ _ hb0,pre,xs,rest,fr,p1,p2,(p3.mono λ_ _=>Sr.mono (bli.ph_le hle)),p4,p5,λg z' e=>?_,p7⟩
    grind [p3.len]
   ·obtain⟨b0,hb0,hat⟩:=h2.hr x bx hx
    exact⟨b0,hle _ _ hb0,hat.mono hle rfl⟩
  ·obtain⟨x0,q1,q2⟩:=back x bx hx
   obtain⟨y0,r1,r2⟩:=back y by' hy
   rw[hne x (num x x0 q1)] at hb1;rw[hne y (num y y0 r1)] at hb2;rw[q2,r2];exact h2.inj x y x0 y0 b1 b2 q1 r1 hb1 hb2 e
 have env2:EnvR φ' (env.set t (.s (.sla i n m))) a:=by
  refine⟨h1.1,fE (h1.2.mono λ_ _=>Vr.mono hle) λx hx=>?_⟩
  have hs:env[t]? =some (.s (.slc (some (i,0)) m (some K))):=by
   grind
  obtain⟨d,kk,q1,q2,q3,q4⟩:=gO h1.2 hs hx
  have hkk:K=kk:=by
   grind
  subst hkk;refine⟨d,K,hle _ _ q1,hn,?_,q3⟩
  grind
 refine wp_mono (k φ' a w env2 good2 (λx hx=>by grind) aa) ?_;rintro x a' w' ⟨φ2,e,m',M,hR,k1,k2,k3,k4,k5,k6⟩;refine⟨φ2,e,m',M,hR,k1,k2,k3,k4,⟨k5.os,k5.tape,k5.output,k5.size,λd hd hn=>k5.keep d hd λhw=>hn (wr1 d hw),λjj bl1 d hj hd hlt'=>?_,λx l hx=>k5.zle x l (hz▸hx),λx l hx=>?_⟩,λx hx=>by grind⟩
 ·grind [k5.fresh]
 ·rcases k5.zfr x l hx with q|q|q
  all_goals grind
end
section
variable {P:Program} {ops:Array Oper} {d:Bool} {acc:List Row} {os:List Oper} {env:List V} {n:Nat} {L:Hp} {R:Post}
theorem RegX.ixr {dst:Option Tmp} {t el:TypeId} {x ix:Operand} {t':TypeId} {pos:String} {af:Array Edge} {gd:Option (Nat×Bool)} {i g sz:Nat} {kd:IntKind} {z:Int} (k:Nat)
 (hd:ev env x=.s (.row i g m)) (hix:ev env ix=.s (.int kd z)) (hz:z=(k:Int)) (hk:k<m) (ht:P.underlying t=some (.slice el)) (hsz:cE P el=some sz)
 (hw:bf ops env ⟨dst,.indexAddr t x ix,t',pos,af,gd⟩=some true)
 (kk:RegX P ops d (aE d ⟨dst,.indexAddr t x ix,t',pos,af,gd⟩ [] [] acc) os (bg env dst (.s (.ptr (some (i,k*sz))))) n L R):RegX P ops d acc (⟨dst,.indexAddr t x ix,t',pos,af,gd⟩::os) env n L R:=by
 subst hz;refine RegX.op (foot:=[]) (wr:=[]) hw ?_ (Z02 _) kk
 refine OpL.light λφ a w hop _=>?_
 have g1:=hop x (by simp[Op.operands]);have g2:=hop ix (by simp[Op.operands]);rw[hd] at g1;rw[hix] at g2;simp only[Vr,Sr] at g2
 rcases g1 with ⟨h0,_⟩|⟨_,b,c,hb,hg,hv,hle⟩
 ·omega
 ·refine⟨.pointer (some ⟨b.1,k*sz+b.2,none⟩),?_,b,hb,rfl⟩
  have h1:(0:Int)<=(k:Int):=aa;have h2:(k:Int)<(m:Int):=aa;simp only[execOp,hv,g2,Instr.indexAt,asIntOf,Z09,Z0f,run_underlying ht,Z05,aI hsz,bw];rw[if_pos ⟨h1,h2⟩];simp[aI hsz,bw,Z4k]
end
end
theorem cq {α:Type} (g:α->List S) (w:Nat) (d:α) (hw:∀ a,(g a).length=w):∀ {l:List α} {k j:Nat} {x:S},k<l.length->(g (l.getD k d))[j]? =some x->(l.flatMap g)[k*w+j]? =some x
 |[],k,j,x,hk,_=>by grind
 |a::l,0,j,x,hk,hx=>by
  grind
 |a::l,k+1,j,x,hk,hx=>by
  have:=cq g w d hw (l:=l) (k:=k) (j:=j) (x:=x) ae hx
  grind
section
variable {P:Program} {b:Nat} {env:List V} {n:Nat} {L:Hp} {R:Post} {c:Code}
theorem Ex.fzR {α:Type} (t:Nat) (g:α->List S) (w:Nat) (d:α) (l:List α) {i gn ty:Nat} (ht:env.getD t .undef=.s (.row i gn l.length)) (hl:lk L i=fq ty gn w (l.flatMap g)) (hw:∀ a,(g a).length=w) (hp:∀ (a:α) (j:Nat) (x:S),(g a)[j]? =some x->bL x=true) (hw0:0<w)
 {env':List V} (he:env.set t (.s (.frz (λk=>g (l.getD k d)) w l.length))=env') {L':Hp} (hL:put L i none=L') (k:Ex P b c env' n L' R):Ex P b c env n L R:=by
 have sub:xy L' L:=by
  intro j bj hj
  grind [aC]
 cases l with
 |nil=>exact gH t _ (by rw[ht];exact VLe.s SLe.row0) he (Ex.sub sub k)
 |cons a l=>
  have hne:(a::l).flatMap g≠[]:=by
   rw[Z0g];have:=hw a
   cases hga:g a with
   |nil=>grind
   |cons x xs=>simp
  obtain⟨x,xs,hx⟩:=Z4j hne;rw[hx] at hl;have hl:lk L i=some {cells:=x::xs,ty:=ty,more:=true,sym:=true,flat:=true,gh:=some (gn,w)}:=hl;refine Ex.fz t _ w (i:=i) (N:=(a::l).length) (by rw[ht];rfl) hl rfl rfl (λk _=>hw _) (λk j y hk hy=>⟨?_,hp _ _ _ hy⟩) he hL k
  grind [cq]
end
end Ab
section
open Go Ab
def tH (z:Int):Bool:=decide (97<=z/\z<=122)
def gr (z:Int):Bool:=decide (97<=z/\z<=122\/65<=z/\z<=90\/z=95)
def k_ (z:Int):Bool:=decide (48<=z/\z<=57)
theorem fx (z:Int):FQ 165 [n8 z] 0 [] (bV (gr z)) 0 []:=by
 refine wW Tryz.func165 ?_
 repeat'(first|refine y1 ?_|refine y2 ?_ ?_|refine y4 λh=>?_|refine cL (.inl rfl) rfl ?_|refine y3 ?_|exact y5|fail)
 all_goals (unfold gr;simp;omega)
theorem l8 (z:Int):FQ 203 [n8 z] 0 [] (bV (k_ z)) 0 []:=by
 refine wW Tryz.func203 ?_
 repeat'(first|refine y1 ?_|refine y2 ?_ ?_|refine y4 λh=>?_|refine cL (.inl rfl) rfl ?_|refine y3 ?_|exact y5|fail)
 all_goals (unfold k_;simp;omega)
def lZ (c:UInt8):Bool:=gr (c.toNat:Int)||k_ (c.toNat:Int)
theorem IH {s:By} {j:Nat} (hj:j<s.length):(s.drop j).takeWhile lZ=if lZ (s.getD j 0) then s.getD j 0::(s.drop (j+1)).takeWhile lZ else []:=by
 rw[Z0k hj,List.takeWhile_cons,Z00,Z01 hj];rfl
theorem HR (s:By) (hl0:s.length<9223372036854775807):FQ 166 [sV s,nI 0] 0 [] (nI ((s.takeWhile lZ).length:Nat)) 0 []:=by
 refine wW Tryz.func166 ?_
 repeat'(first|refine yA ?_|refine y2 ?_ ?_|exact y5|fail)
 refine cy (σ:=Nat) (λj=>[(1,nI j)]) (λ_=>[]) (λj=>j<=s.length/\(s.takeWhile lZ).length=j+((s.drop j).takeWhile lZ).length) (λj=>s.length-j) 0 rfl (λ_=>rfl) ⟨Z08 _,aq⟩ aP trivial ?_;rintro j ⟨hj,hE⟩
 rcases Z0a j s.length with h|h
 ·rw[IH h] at hE
  have hl:=fx ((s.getD j 0).toNat:Int);have hd:=l8 ((s.getD j 0).toNat:Int);rw[show lZ (s.getD j 0)=(gr ((s.getD j 0).toNat:Int)||k_ ((s.getD j 0).toNat:Int)) from rfl] at hE;generalize gr ((s.getD j 0).toNat:Int)=b1 at*;generalize k_ ((s.getD j 0).toNat:Int)=b2 at*
  cases b1<;>cases b2<;>simp only[Z4m,Z41,if_true,Z3e,Z0l,if_false,Z04,Z0e] at hE
  all_goals
   repeat'(first|refine y1 ?_|refine y2 ?_ ?_|refine y4 λh=>?_|refine bG hl ?_|refine bG hd ?_|refine lh (.inl rfl) rfl ?_|refine dz (j+1) ⟨?_,?_⟩ ?_ rfl aP trivial rfl rfl (Z02 _)|refine y3 ?_|exact y5|fail)
 ·rw[Z10 h] at hE
  simp only[List.takeWhile_nil,Z0e] at hE
  repeat'(first|refine y1 ?_|refine y2 ?_ ?_|refine y4 λh=>?_|refine lh (.inl rfl) rfl ?_|refine y3 ?_|exact y5|fail)
def qY (s:By):Bool:=s.any λc=>tH (c.toNat:Int)
theorem Kb {s:By} {j:Nat} (hj:j<s.length):((s.drop j).any λc=>tH (c.toNat:Int))=(tH ((s.getD j 0).toNat:Int)||((s.drop (j+1)).any λc=>tH (c.toNat:Int))):=by
 rw[Z0k hj,List.any_cons,Z00,Z01 hj];rfl
theorem tG (s:By) (hl0:s.length<9223372036854775807):FQ 167 [sV s] 0 [] (bV (qY s)) 0 []:=by
 refine wW Tryz.func167 ?_
 repeat'(first|refine yA ?_|refine y2 ?_ ?_|exact y5|fail)
 refine cy (σ:=Nat) (λj=>[(3,nI j)]) (λ_=>[]) (λj=>j<=s.length/\qY s=(s.drop j).any λc=>tH (c.toNat:Int)) (λj=>s.length-j) 0 rfl (λ_=>rfl) ⟨Z08 _,by simp[qY]⟩ aP trivial ?_;rintro j ⟨hj,hE⟩
 rcases Z0a j s.length with h|h
 ·rw[Kb h] at hE
  repeat'(first|refine y1 ?_|refine y2 ?_ ?_|refine y4 λh=>?_|refine cL (.inl rfl) rfl ?_|refine dz (j+1) ⟨?_,?_⟩ ?_ rfl aP trivial rfl rfl (Z02 _)|refine y3 ?_|exact y5|fail)
  all_goals first
   |(rw[hE,show tH ((s.getD j 0).toNat:Int)=true from decide_eq_true ⟨aa,aa⟩];rfl)
   |(rw[hE,show tH ((s.getD j 0).toNat:Int)=false from decide_eq_false aa];rfl)
 ·rw[Z10 h] at hE
  repeat'(first|refine y1 ?_|refine y2 ?_ ?_|refine y4 λh=>?_|refine cL (.inl rfl) rfl ?_|refine y3 ?_|exact y5|fail)
  all_goals (rw[hE];rfl)
def G5 (s:By):Bool:=decide (1<=s.length)&&decide (s.length<=4)&&gr ((s.getD 0 0).toNat:Int)&&decide ((s.takeWhile lZ).length=s.length)&& !qY s
theorem JF (s:By) (hl0:s.length<9223372036854775807):FQ 99 [sV s] 0 [] (bV (G5 s)) 0 []:=by
 have hl:=fx ((s.getD 0 0).toNat:Int);have hi:=HR s hl0;have hw:=tG s hl0;unfold G5;generalize gr ((s.getD 0 0).toNat:Int)=b1 at*;generalize qY s=b2 at*;generalize (s.takeWhile lZ).length=k at*;refine wW Tryz.func99 ?_
 cases b1<;>cases b2
 all_goals
  repeat'(first|refine y1 ?_|refine y2 ?_ ?_|refine y4 λh=>?_|refine bG hl ?_|refine an hi ?_|refine bG hw ?_|refine cL (.inl rfl) rfl ?_|refine y3 ?_|exact y5|fail)
  all_goals first
   |(simp;done)
   |(simp;omega)
theorem zM {p:UInt8->Bool}:∀ {s:By},(s.takeWhile p).length=s.length↔s.all p=true
 |[]=>by simp
 |c::s=>by
  rw[List.takeWhile_cons,Z1b];have:=zM (p:=p) (s:=s);cases h:p c
  ·simp
  ·simp only[if_true,Z04,Z1r,<-this];omega
theorem GZ (s:By):G5 s=a_ s:=by
 unfold G5 a_;by_cases h1:1<=s.length
 ·by_cases h2:s.length<=4
  ·rw[decide_eq_true h1,decide_eq_true h2]
   simp only[Z1r];rw[Z5t];simp only[Z07,decide_eq_true_eq,zM,Z0i,Z29,Z0v,qY,Z4b];constructor
   ·rintro⟨⟨a,b⟩,c⟩ i hi
    have hm:s.getD i 0∈s:=by rw[Z00,Z01 hi];exact Z0s hi
    have b:=b _ hm;have c:=c _ hm;unfold nN xS;unfold lZ gr k_ at b;unfold tH at c;simp only[Z1h,decide_eq_true_eq] at b c |-
    cases i with
    |zero=>
     unfold gr at a;simp only[decide_eq_true_eq] at a;omega
    |succ i=>omega
   ·intro h
    refine⟨⟨?_,λc hc=>?_⟩,λc hc=>?_⟩
    ·have:=h 0 aa
     unfold nN xS at this;unfold gr;simp only[decide_eq_true_eq] at this |-;omega
    all_goals
     obtain⟨i,hi,rfl⟩:=Z2r.1 hc;have:=h i hi;rw[Z00,Z01 hi] at this;unfold nN xS at this
     try unfold lZ gr k_
     try unfold tH
     simp only[Z1h,decide_eq_true_eq,Z22] at this |-;omega
  ·rw[decide_eq_false h2];simp
 ·rw[decide_eq_false h1];simp
theorem ka (s:By) (hl0:s.length<9223372036854775807):FQ 99 [sV s] 0 [] (bV (a_ s)) 0 []:=GZ s▸JF s hl0
theorem ve (s:By) (hl0:s.length<9223372036854775807):FQ 138 [sV s] 0 [] (bV (a_ s)) 0 []:=by
 refine wW Tryz.func138 ?_
 repeat'(first|refine y1 ?_|refine y2 ?_ ?_|refine an (ka s hl0) ?_|refine cL (.inl rfl) rfl rfl|refine y3 ?_|exact y5|fail)
theorem ga (root:Bool) (up:Int) (segs:List By) (hs:∀ i,i<segs.length->(segs.getD i []).length<9223372036854775807):FQ 100 [.agg [.bool root,.int .i64 up,bc segs]] 0 [] (bV (aG ⟨root,up,segs⟩)) 0 []:=by
 refine wW Tryz.func100 ?_;cases root
 all_goals
  repeat'(first|refine y1 ?_|refine y2 ?_ ?_|refine y4 λh=>?_|refine cL (.inl rfl) rfl ?_|refine y3 ?_|exact y5|fail)
  all_goals try first
   |exact aB aa aa
   |(unfold aG;simp;done)
   |(unfold aG;simp;omega)
   |(obtain rfl:segs=[]:=Z4u.1 aa
     obtain rfl:up=0:=aa
     rfl)
  all_goals
   refine cy (σ:=Nat) (λj=>[(3,nI j)]) (λ_=>[(0,some {cells:=[.bool _,.int .i64 up,bc segs],ty:=99})]) (λj=>j<=segs.length/\∀ i,i<j->a_ (segs.getD i [])=true) (λj=>segs.length-j) 0 rfl (λ_=>rfl) ⟨Z08 _,λi hi=>by omega⟩ aP ⟨rfl,trivial⟩ ?_;rintro j ⟨hj,hall⟩
   repeat'(first|refine y1 ?_|refine y2 ?_ ?_|refine y4 λh=>?_|(refine wX ?_;refine CallG.bo (ka _ (hs j aa)) rfl rfl rfl ?_)|refine cL (.inl rfl) rfl ?_|refine dz (j+1) ⟨?_,?_⟩ ?_ rfl aP ⟨rfl,trivial⟩ rfl rfl ac|refine y3 ?_|exact y5|fail)
   all_goals first
    |omega
    |exact aB aa aa
    |exact oW hall ae
    |(have:=F1 (l:=segs) (j:=j) aa ‹a_ _=false›;unfold aG;rw[this];simp)
    |(have:=Bd (l:=segs) λi hi=>hall i aa
      unfold aG;rw[this];simp;first|done|omega|exact λ_ _ _=>⟨aa,Z4u.1 aa⟩)
    |trace_state
end
section
open Go.Shelf
def Tryz.keysA_ren:Go.Shelf.Ren:=⟨fun|7=>72|10=>131|n=>n,fun|23=>76|26=>3|3=>86|28=>133|0=>0|27=>132|33=>141|4=>4|n=>n,fun|n=>n⟩
theorem Tryz.keysA:Go.Proofs.SlLaysZI.n7 Tryz.prog Tryz.keysA_ren:={
 mixed:=by kernel_rfl
 f7:=⟨Tryz.f72.name,by decide,Tryz.func72.trans (congrArg some (by kernel_rfl))⟩
 f10:=⟨Tryz.f131.name,by decide,Tryz.func131.trans (congrArg some (by kernel_rfl))⟩
 t0:=Tryz.underlying0
 a0:=Tryz.isAgg0
 z0:=Tryz.sizeOf0
 v0:=Tryz.zeroValue0
 t4:=Tryz.underlying4
 a4:=Tryz.isAgg4
 z4:=Tryz.sizeOf4
 v4:=Tryz.zeroValue4
 t23:=Tryz.underlying76
 a23:=Tryz.isAgg76
 z23:=Tryz.sizeOf76
 v23:=Tryz.zeroValue76
 t26:=Tryz.underlying3
 a26:=Tryz.isAgg3
 z26:=Tryz.sizeOf3
 v26:=Tryz.zeroValue3
 t27:=Tryz.underlying132
 a27:=Tryz.isAgg132
 z27:=Tryz.sizeOf132
 v27:=Tryz.zeroValue132
 t28:=Tryz.underlying133
 a28:=Tryz.isAgg133
 z28:=Tryz.sizeOf133
 v28:=Tryz.zeroValue133
 t33:=Tryz.underlying141
 a33:=Tryz.isAgg141
 z33:=Tryz.sizeOf141
 v33:=Tryz.zeroValue141}
def Tryz.sortedA_ren:Go.Shelf.Ren:=⟨fun|6=>71|8=>130|9=>74|11=>190|13=>133|12=>132|23=>200|24=>201|14=>191|15=>192|16=>193|17=>194|18=>195|19=>196|20=>197|21=>198|22=>199|25=>238|26=>239|27=>240|28=>241|29=>242|30=>181|31=>260|n=>n,fun|26=>3|28=>133|24=>22|0=>0|3=>3|37=>137|48=>255|50=>47|4=>4|40=>248|39=>247|45=>43|5=>5|9=>9|51=>282|55=>285|57=>297|58=>298|33=>141|n=>n,fun|n=>n⟩
theorem Tryz.sortedA:Go.Proofs.SlLaysZI.n6 Tryz.prog Tryz.sortedA_ren:={
 mixed:=by kernel_rfl
 f6:=⟨Tryz.f71.name,by decide,Tryz.func71.trans (congrArg some (by kernel_rfl))⟩
 f8:=⟨Tryz.f130.name,by decide,Tryz.func130.trans (congrArg some (by kernel_rfl))⟩
 f11:=⟨Tryz.f190.name,by decide,Tryz.func190.trans (congrArg some (by kernel_rfl))⟩
 t0:=Tryz.underlying0
 a0:=Tryz.isAgg0
 z0:=Tryz.sizeOf0
 v0:=Tryz.zeroValue0
 t24:=Tryz.underlying22
 a24:=Tryz.isAgg22
 z24:=Tryz.sizeOf22
 v24:=Tryz.zeroValue22
 t26:=Tryz.underlying3
 a26:=Tryz.isAgg3
 z26:=Tryz.sizeOf3
 v26:=Tryz.zeroValue3
 t28:=Tryz.underlying133
 a28:=Tryz.isAgg133
 z28:=Tryz.sizeOf133
 v28:=Tryz.zeroValue133
 i26:=by kernel_rfl}
def Tryz.sortA_ren:Go.Shelf.Ren:=⟨fun|5=>74|8=>133|7=>132|19=>200|20=>201|10=>191|11=>192|12=>193|13=>194|14=>195|15=>196|16=>197|17=>198|18=>199|30=>238|31=>239|32=>240|33=>241|34=>242|35=>181|40=>260|n=>n,fun|23=>22|25=>3|3=>3|32=>137|22=>22|0=>0|44=>255|46=>47|4=>4|36=>248|35=>247|41=>43|5=>5|9=>9|53=>282|57=>285|63=>297|64=>298|n=>n,fun|n=>n⟩
theorem Tryz.sortA:Go.Proofs.SlLaysM.n5 Tryz.prog Tryz.sortA_ren:={
 mixed:=by kernel_rfl
 f5:=⟨Tryz.f74.name,by decide,Tryz.func74.trans (congrArg some (by kernel_rfl))⟩
 f7:=⟨Tryz.f132.name,by decide,Tryz.func132.trans (congrArg some (by kernel_rfl))⟩
 f8:=Tryz.func133.trans (congrArg some (by kernel_rfl))
 f10:=⟨Tryz.f191.name,by decide,Tryz.func191.trans (congrArg some (by kernel_rfl))⟩
 f11:=⟨Tryz.f192.name,by decide,Tryz.func192.trans (congrArg some (by kernel_rfl))⟩
 f12:=⟨Tryz.f193.name,by decide,Tryz.func193.trans (congrArg some (by kernel_rfl))⟩
 f13:=⟨Tryz.f194.name,by decide,Tryz.func194.trans (congrArg some (by kernel_rfl))⟩
 f14:=⟨Tryz.f195.name,by decide,Tryz.func195.trans (congrArg some (by kernel_rfl))⟩
 f15:=⟨Tryz.f196.name,by decide,Tryz.func196.trans (congrArg some (by kernel_rfl))⟩
 f16:=⟨Tryz.f197.name,by decide,Tryz.func197.trans (congrArg some (by kernel_rfl))⟩
 f17:=⟨Tryz.f198.name,by decide,Tryz.func198.trans (congrArg some (by kernel_rfl))⟩
 f18:=⟨Tryz.f199.name,by decide,Tryz.func199.trans (congrArg some (by kernel_rfl))⟩
 f19:=Tryz.func200.trans (congrArg some (by kernel_rfl))
 f20:=Tryz.func201.trans (congrArg some (by kernel_rfl))
 f30:=⟨Tryz.f238.name,by decide,Tryz.func238.trans (congrArg some (by kernel_rfl))⟩
 f31:=Tryz.func239.trans (congrArg some (by kernel_rfl))
 f32:=Tryz.func240.trans (congrArg some (by kernel_rfl))
 f33:=⟨Tryz.f241.name,by decide,Tryz.func241.trans (congrArg some (by kernel_rfl))⟩
 f34:=⟨Tryz.f242.name,by decide,Tryz.func242.trans (congrArg some (by kernel_rfl))⟩
 f35:=⟨Tryz.f181.name,by decide,Tryz.func181.trans (congrArg some (by kernel_rfl))⟩
 f40:=⟨Tryz.f260.name,by decide,Tryz.func260.trans (congrArg some (by kernel_rfl))⟩
 t0:=Tryz.underlying0
 a0:=Tryz.isAgg0
 z0:=Tryz.sizeOf0
 v0:=Tryz.zeroValue0
 t3:=Tryz.underlying3
 a3:=Tryz.isAgg3
 z3:=Tryz.sizeOf3
 v3:=Tryz.zeroValue3
 t4:=Tryz.underlying4
 a4:=Tryz.isAgg4
 z4:=Tryz.sizeOf4
 v4:=Tryz.zeroValue4
 t5:=Tryz.underlying5
 a5:=Tryz.isAgg5
 z5:=Tryz.sizeOf5
 v5:=Tryz.zeroValue5
 t9:=Tryz.underlying9
 a9:=Tryz.isAgg9
 z9:=Tryz.sizeOf9
 v9:=Tryz.zeroValue9
 t22:=Tryz.underlying22
 a22:=Tryz.isAgg22
 z22:=Tryz.sizeOf22
 v22:=Tryz.zeroValue22
 t23:=Tryz.underlying22
 a23:=Tryz.isAgg22
 z23:=Tryz.sizeOf22
 v23:=Tryz.zeroValue22
 t25:=Tryz.underlying3
 a25:=Tryz.isAgg3
 z25:=Tryz.sizeOf3
 v25:=Tryz.zeroValue3
 t32:=Tryz.underlying137
 a32:=Tryz.isAgg137
 z32:=Tryz.sizeOf137
 v32:=Tryz.zeroValue137
 t35:=Tryz.underlying247
 a35:=Tryz.isAgg247
 z35:=Tryz.sizeOf247
 v35:=Tryz.zeroValue247
 t36:=Tryz.underlying248
 a36:=Tryz.isAgg248
 z36:=Tryz.sizeOf248
 v36:=Tryz.zeroValue248
 t41:=Tryz.underlying43
 a41:=Tryz.isAgg43
 z41:=Tryz.sizeOf43
 v41:=Tryz.zeroValue43
 t44:=Tryz.underlying255
 a44:=Tryz.isAgg255
 z44:=Tryz.sizeOf255
 v44:=Tryz.zeroValue255
 t46:=Tryz.underlying47
 a46:=Tryz.isAgg47
 z46:=Tryz.sizeOf47
 v46:=Tryz.zeroValue47
 t53:=Tryz.underlying282
 a53:=Tryz.isAgg282
 z53:=Tryz.sizeOf282
 v53:=Tryz.zeroValue282
 t57:=Tryz.underlying285
 a57:=Tryz.isAgg285
 z57:=Tryz.sizeOf285
 v57:=Tryz.zeroValue285
 t63:=Tryz.underlying297
 a63:=Tryz.isAgg297
 z63:=Tryz.sizeOf297
 v63:=Tryz.zeroValue297
 t64:=Tryz.underlying298
 a64:=Tryz.isAgg298
 z64:=Tryz.sizeOf298
 v64:=Tryz.zeroValue298}
def Tryz.cloneA_ren:Go.Shelf.Ren:=⟨fun|5=>123|7=>182|n=>n,fun|23=>76|25=>3|3=>86|4=>4|20=>20|n=>n,fun|n=>n⟩
theorem Tryz.cloneA:Go.Proofs.SlLaysW.n5 Tryz.prog Tryz.cloneA_ren:={
 mixed:=by kernel_rfl
 f5:=⟨Tryz.f123.name,by decide,Tryz.func123.trans (congrArg some (by kernel_rfl))⟩
 f7:=Tryz.func182.trans (congrArg some (by kernel_rfl))
 t4:=Tryz.underlying4
 a4:=Tryz.isAgg4
 z4:=Tryz.sizeOf4
 v4:=Tryz.zeroValue4
 t20:=Tryz.underlying20
 a20:=Tryz.isAgg20
 z20:=Tryz.sizeOf20
 v20:=Tryz.zeroValue20
 t23:=Tryz.underlying76
 a23:=Tryz.isAgg76
 z23:=Tryz.sizeOf76
 v23:=Tryz.zeroValue76}
def Tryz.cloneB_ren:Go.Shelf.Ren:=⟨fun|5=>124|7=>182|n=>n,fun|23=>77|25=>9|3=>3|4=>4|20=>20|n=>n,fun|n=>n⟩
theorem Tryz.cloneB:Go.Proofs.SlLaysW.n5 Tryz.prog Tryz.cloneB_ren:={
 mixed:=by kernel_rfl
 f5:=⟨Tryz.f124.name,by decide,Tryz.func124.trans (congrArg some (by kernel_rfl))⟩
 f7:=Tryz.func182.trans (congrArg some (by kernel_rfl))
 t4:=Tryz.underlying4
 a4:=Tryz.isAgg4
 z4:=Tryz.sizeOf4
 v4:=Tryz.zeroValue4
 t20:=Tryz.underlying20
 a20:=Tryz.isAgg20
 z20:=Tryz.sizeOf20
 v20:=Tryz.zeroValue20
 t23:=Tryz.underlying77
 a23:=Tryz.isAgg77
 z23:=Tryz.sizeOf77
 v23:=Tryz.zeroValue77}
def Tryz.cloneC_ren:Go.Shelf.Ren:=⟨fun|5=>125|7=>182|n=>n,fun|23=>78|25=>3|3=>126|4=>4|20=>20|n=>n,fun|n=>n⟩
theorem Tryz.cloneC:Go.Proofs.SlLaysW.n5 Tryz.prog Tryz.cloneC_ren:={
 mixed:=by kernel_rfl
 f5:=⟨Tryz.f125.name,by decide,Tryz.func125.trans (congrArg some (by kernel_rfl))⟩
 f7:=Tryz.func182.trans (congrArg some (by kernel_rfl))
 t4:=Tryz.underlying4
 a4:=Tryz.isAgg4
 z4:=Tryz.sizeOf4
 v4:=Tryz.zeroValue4
 t20:=Tryz.underlying20
 a20:=Tryz.isAgg20
 z20:=Tryz.sizeOf20
 v20:=Tryz.zeroValue20
 t23:=Tryz.underlying78
 a23:=Tryz.isAgg78
 z23:=Tryz.sizeOf78
 v23:=Tryz.zeroValue78}
