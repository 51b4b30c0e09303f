import Derived.Test.YtegjgpldfgjoiaaGreatDoorCnD01
import Derived.Test.YtegjgpldfgjoiaaGreatDoorCnD39
set_option linter.all false
set_option maxHeartbeats 40000000
set_option maxRecDepth 100000
namespace Go.Proofs.YtegjgpldfgjoiaaGreatDoor
section
open Go Ab
section
variable {t:Fo} {i:Nat}
def cc (t:Fo):List Nat:=(List.range t.size).map λi=>i+1+(t.kid 0 i).size
theorem x5 (hi:i<t.size):(cc t).getD i 0=i+1+(t.kid 0 i).size:=by
 simp[cc,Z00,hi]
theorem s_ {p:List Nd} {cs:List (Bool×Int)} (ha:t.At p 0) (hv:t.V cs) (hs:t.size=p.length):EOK p (cc t):=by
 refine⟨by simp[cc,hs],λi hi=>?_⟩;obtain⟨sl,h1,_⟩:=cn (i:=i) ha hv (Z08 i) aa;rw[x5 aa];exact At.ends1 h1
def gI (t:Fo) (i:Nat):List Nat:=(List.range t.size).map λj=>if j<i then 0 else j+1+(t.kid 0 j).size
theorem Bf (t:Fo) (i:Nat):(gI t i).length=t.size:=by simp[gI]
theorem Bg {j:Nat} (hj:j<t.size) (h:i<=j):(gI t i).getD j 0=j+1+(t.kid 0 j).size:=by
 simp[gI,Z00,hj];omega
theorem Bh (t:Fo):gI t t.size=List.replicate t.size 0:=by
 apply Z3j
 all_goals grind [gI]
theorem x6 (t:Fo):gI t 0=cc t:=by simp[gI,cc]
theorem Be (hi:i<t.size):(gI t (i+1)).set i (i+1+(t.kid 0 i).size)=gI t i:=by
 apply Z3j
 all_goals grind [gI]
end
end
section
open Go Ab Go.Shelf Go.Lib Go.Sort
theorem Al (x y:Nat×Nat):ltOf E4 x y=true↔(x.1<y.1\/(x.1=y.1/\x.2<y.2)):=by
 grind [ltOf,E4,compareInt]
theorem qd (x y:Nat×Nat):ltOf E4 x y=false↔ ¬(x.1<y.1\/(x.1=y.1/\x.2<y.2)):=by
 rw[<-Al];simp
theorem CL:SWO (ltOf E4) where
 irrefl x:=by rw[qd];omega
 trans x y z:=by simp only[Al];omega
 ntrans x y z:=by simp only[qd];omega
theorem CI (x y:Nat×Nat) (h1:ltOf E4 x y=false) (h2:ltOf E4 y x=false):x=y:=by
 grind [qd]
def ew (G:List (Nat×Nat)):List (Nat×Nat):=G.mergeSort λx y=> !(ltOf E4) y x
theorem eW (G:List (Nat×Nat)):(ew G).length=G.length:=by unfold ew;simp
theorem ED (φ:Ph):∀ (d:List (Nat×Nat)) (xs:List Value),All2 (Sr φ) (d.flatMap bX) xs->xs=d.flatMap gJ
 |[],[],_=>rfl
 |[],_::_,h=>h.elim
 |x::d,xs,h=>by
  rw[Z0g] at h |-
  match xs,h with
  |a::b::r,⟨h1,h2,h3⟩=>
   have e1:a=.int .i64 (x.1:Int):=h1;have e2:b=.int .i64 (x.2:Int):=h2;rw[e1,e2,ED φ d r h3];rfl
  |[_],⟨_,h2⟩=>exact h2.elim
  |[],h=>exact h.elim
theorem EY (φ:Ph):∀ (d:List (Nat×Nat)),All2 (Sr φ) (d.flatMap bX) (d.flatMap gJ)
 |[]=>trivial
 |x::d=>by
  rw[Z0g,Z0g];exact All2.append ⟨rfl,rfl,trivial⟩ (EY φ d)
theorem iY:∀ d:List (Nat×Nat),(d.flatMap gJ).length=d.length*2
 |[]=>rfl
 |x::d=>by rw[Z0g,Z03,iY d];simp only[Z04];simp[gJ];omega
theorem wz:∀ (d:List (Nat×Nat)) (t:Nat),t<d.length*2->(d.flatMap gJ)[t]! =(gJ d[t/2]!)[t%2]!
 |[],t,h=>by grind
 |x::d,0,h=>rfl
 |x::d,1,h=>rfl
 |x::d,t+2,h=>by
  have:=wz d t ae;rw[show (t+2)/2=t/2+1 by omega,show (t+2)%2=t%2 by omega]
  grind [gJ]
theorem pj (d:List (Nat×Nat)):flatK gJ 2 d.toArray=(d.flatMap gJ).toArray:=by
 refine ext_get! (by simp only[size_flatK,Z3z,iY]) λt ht=>?_
 have ht':t<d.length*2:=by simpa using ht
 grind [get_flatK,wz]
theorem A_:∀ args w,(callFunc 120 args).run Tryz.prog w=.ok (.enter 120 args) w:=by
 intro args w;simp only[callFunc,Z09,run_program,Z05,Tryz.func120];rfl
theorem pZ (pre ys zs rest:List Value) (h:zs.length=ys.length):putCells id pre.length zs.toArray (pre++(ys++rest)).toArray=(pre++(zs++rest)).toArray:=by
 unfold putCells
 grind
theorem yZ (w:World) (b o n:Nat) (D:Array (Nat×Nat)) (os:Array Obj) (j:Nat) (hj:j<w.heap.size) (hb:j≠b):(sortWorldK gJ 2 w b o n D os).heap[j]? =w.heap[j]? :=by
 show ((w.heap.modify b _)++os)[j]? =_
 grind
theorem He (w:World) (b n:Nat) (d:List (Nat×Nat)) (os:Array Obj) (pre ys rest:List Value) (ty:TypeId) (fr:Nat×Nat) (hw:w.heap[b]? =some (.cells (pre++(ys++rest)).toArray ty fr)) (hl:ys.length=d.length*2):
 (sortWorldK gJ 2 w b pre.length n d.toArray os).heap[b]? =some (.cells (pre++(d.flatMap gJ++rest)).toArray ty fr):=by
 have hb:b<w.heap.size:=by
  grind
 show ((w.heap.modify b (onCells (putCells id pre.length (flatK gJ 2 d.toArray))))++os)[b]? =_;rw[Array.getElem?_append_left ae,Z5v,if_pos rfl,hw,pj];show some (Obj.cells (putCells id pre.length (d.flatMap gJ).toArray (pre++(ys++rest)).toArray) ty fr)=_;rw[pZ pre ys _ rest (by rw[iY,hl])]
theorem AK (w:World) (b:Nat) (d:List (Nat×Nat)) (pre rest:List Value) (ty:TypeId) (fr:Nat×Nat) (hw:w.heap[b]? =some (.cells (pre++(d.flatMap gJ++rest)).toArray ty fr))
 (hfr:∀ o,o<(pre++(d.flatMap gJ++rest)).length->(fr.1<=o&&o<fr.2)=false):HoldsK gJ 2 w b pre.length d.toArray:=by
 intro j hj;rw[pj] at hj |-;simp only[Z3z] at hj;constructor
 ·unfold World.cell?
  grind
 ·unfold World.frozen?
  grind
theorem j0 {ty g w:Nat} {cs:List S} (h:cs≠[]):g9 ty g w cs=some {cells:=cs,ty:=ty,more:=true,sym:=true,flat:=true,gh:=some (g,w)}:=by
 cases cs with
 |nil=>grind
 |cons c cs=>rfl
theorem Bp {d:List (Nat×Nat)} (h:0<d.length):d.flatMap bX≠[]:=λe=>by
 grind [uY]
theorem zg (d:List (Nat×Nat)) (hd:d.length<=1000000000000):
 FQ 119 [.s (.row 0 1 d.length),.s (.fn 120)] 2 [(0,bv 0 d)] .any 2 [(0,bv 0 (ew d))]:=by
 refine⟨bd,λφ xs w hx hg hf=>?_⟩
 match xs,hx with
 |[x0,x1],⟨h0,h1,_⟩=>
  have h1:x1=.func (.func 120) #[] #[]:=h1;subst h1
  rcases Z21 d.length with hz|hz
  ·obtain rfl:=Z15 hz
   have h0:x0=.slice none 0 0:=by
    rcases h0 with ⟨_,h⟩|⟨h,_⟩
    all_goals grind
   subst h0;refine (AnyF.slices_SortFunc_none Tryz.sortD none 0 _ w).mono ?_;rintro e w' ⟨rfl,rfl⟩
   have e0:ew []=[]:=by simp[ew]
   rw[e0];exact⟨φ,_,rfl,trivial,hg,hf,Stp.refl _ _ _,Z02 _,λ_ _=>rfl⟩
  ·have hs1:=eW d
   have eL:bv 0 d=some {cells:=d.flatMap bX,ty:=112,more:=true,sym:=true,flat:=true,gh:=some (1,2)}:=j0 (Bp hz);have yD:bv 0 (ew d)=some {cells:=(ew d).flatMap bX,ty:=112,more:=true,sym:=true,flat:=true,gh:=some (1,2)}:=j0 (Bp aa);rw[eL] at hg;rw[eL,yD]
   obtain⟨b,k,hb,hg1,rfl,hk⟩:∃ b k,φ.f 0=some b/\φ.f 1=some (k,0)/\x0=.slice (some ⟨b.1,b.2,none⟩) d.length k/\d.length<=k:=by
    rcases h0 with ⟨h,_⟩|⟨_,h⟩
    ·omega
    ·exact h
   obtain⟨b',hb',hbl⟩:=hg.hr 0 _ rfl;obtain rfl:b'=b:=ae;obtain⟨pre,ys,rest,fr,hw,hpre,hys,_,hro,hgh,_⟩:=hbl;have hy:=ED _ d ys hys;have hro:=hro rfl;subst hy
   have hwr:∀ c,Wr φ [(0,some {cells:=d.flatMap bX,ty:=112,more:=true,sym:=true,flat:=true,gh:=some (1,2)})] c↔c=b'.1:=λc=>by
    constructor
    ·rintro⟨i,bl,e,hi,he,rfl,_⟩
     rw[aQ] at hi;split at hi
     ·grind
     ·cases hi
    ·rintro rfl;exact⟨0,_,b',rfl,hb,rfl,rfl⟩
   have hwr':∀ c,Wr φ [(0,some {cells:=(ew d).flatMap bX,ty:=112,more:=true,sym:=true,flat:=true,gh:=some (1,2)})] c↔c=b'.1:=λc=>by
    constructor
    ·rintro⟨i,bl,e,hi,he,rfl,_⟩
     rw[aQ] at hi;split at hi
     ·grind
     ·cases hi
    ·rintro rfl;exact⟨0,_,b',rfl,hb,rfl,rfl⟩
   have hlt:b'.1<w.heap.size:=by
    grind
   have hH:=AK w b'.1 d pre rest _ fr hw hro;rw[hpre] at hH;have ht:=ma (P:=Tryz.prog) (t:=112) (ag:=true) (sz:=2) bd;refine (AnyQ.slices_SortFunc_total Tryz.sortD 2 (λw=>(ht w).1) (λw=>(ht w).2) gJ (λ_=>rfl) (λx v hv=>by simp[gJ] at hv;rcases hv with rfl|rfl<;>rfl) E4 CL 120 #[] b'.1 b'.2 k d.toArray w A_ ?_ hH hlt ae CI).mono ?_
   ·intro m os dk _ x y
    refine (yb (x.1:Int) (x.2:Int) (y.1:Int) (y.2:Int) _).mono ?_;rintro e w' ⟨rfl,q,os',rfl⟩;exact⟨rfl,q,os',rfl⟩
   ·rintro e w' ⟨rfl,n,os,rfl⟩
    have ho:=λj=>yZ w b'.1 b'.2 n (ew d).toArray os j
    have hat:=He w b'.1 n (ew d) os pre _ rest _ fr hw (by rw[iY,eW]);rw[hpre] at hat;refine⟨φ,_,rfl,trivial,⟨λi bl hi=>?_,λi j bl bl' c c' hi hj _ _ _=>?_,λc l hz'=>?_,hg.gz⟩,hf,⟨rfl,rfl,rfl,?_,λc hc hn=>ho c hc λe=>hn ((hwr c).2 e),λj bl c hj hc hcl=>?_,λ_ _ h=>h,λ_ _ h=> .inl h⟩,Z02 _,λ_ _=>rfl⟩
    ·rw[aQ] at hi
     split at hi
     ·rename_i h;subst h;obtain rfl:=Z1c hi
      refine⟨b',hb,pre,_,rest,fr,hat,hpre,EY _ _,λh=>(by cases h),λ_ o ho'=>hro o ?_,λg z hgz=>?_,λg h=>(by cases h)⟩
      ·simp only[Z03,iY,eW] at ho' |-;exact ho'
      ·obtain⟨k',hk',hz'⟩:=hgh g z hgz
       refine⟨k',hk',?_⟩;simp only[Z03,iY,eW] at hz' |-;exact hz'
     ·cases hi
    ·rw[aQ] at hi hj
     split at hi
     ·split at hj
      ·rename_i h h';exact .inl (h.symm.trans h')
      ·cases hj
     ·cases hi
    ·obtain⟨⟨ty,fr',e⟩,hn⟩:=hg.fz c l hz'
     have hne:c≠b'.1:=λe=>hn ((hwr c).2 e)
     exact⟨⟨ty,fr',(ho c (hg.fzlt hz') hne).trans e⟩,λh=>hne ((hwr' c).1 h)⟩
    ·show w.heap.size<=((w.heap.modify b'.1 _)++os).size
     simp
    ·rw[aQ] at hj
     split at hj
     ·rename_i h;subst h
      exact⟨0,_,c,rfl,hc,rfl,λh=>(by cases h),.inl rfl⟩
     ·cases hj
end
section
open Go Ab
def tf (G:List (Nat×Nat)):V:=.s (.frz (λk=>bX (G.getD k (0,0))) 2 G.length)
theorem wB {G:List (Nat×Nat)} {k j:Nat} {x:S} (hk:k<G.length) (hx:(bX (G.getD k (0,0)))[j]? =some x):(G.flatMap bX)[k*2+j]? =some x/\bL x=true:=by
 induction G generalizing k with
 |nil=>simp at hk
 |cons y G ih=>
  cases k with
  |zero=>
   rw[Z0g]
   match j,hx with
   |0,hx=>cases hx;exact⟨rfl,rfl⟩
   |1,hx=>cases hx;exact⟨rfl,rfl⟩
   |_+2,hx=>cases hx
  |succ k=>
   have:=ih (k:=k) ae ae;rw[Z0g,show (k+1)*2+j=(k*2+j)+2 by omega];exact this
theorem Fq:FQ 119 [.s (.row 0 1 0),.s (.fn 120)] 2 [] .any 2 []:=by
 have:=zg [] ac;rw[show ew []=[] by simp[ew]] at this;exact⟨this.1,λφ xs w hx hg hf=>(this.2 φ xs w hx (hg.sub λi bl h=>by rw[aQ] at h;split at h<;>cases h) hf).mono λe w' ⟨φ',x,a,b,c,d,e,f⟩=>⟨φ',x,a,b,c.sub λi bl h=>(by cases h),d,⟨e.os,e.tape,e.output,e.size,λb hb hn=>e.keep b hb λ⟨i,bl,c,h,_⟩=>(by rw[aQ] at h;split at h<;>cases h),λj bl b h=>(by cases h),e.zle,λb l hb=>(e.zfr b l hb).elim .inl λh=>h.elim (λh=> .inr (.inl h)) λ⟨i,bl,c,h,_⟩=>(by rw[aQ] at h;split at h<;>cases h)⟩,f⟩⟩
abbrev dgS (g:Nat) (G:List (Nat×Nat)):Bl:={cells:=G.flatMap bX,ty:=112,more:=true,sym:=true,flat:=true,gh:=some (g+1,2)}
theorem qD {g:Nat} {G:List (Nat×Nat)} (h:0<G.length):bv g G=some (dgS g G):=j0 (Bp h)
theorem Fp (d:List (Nat×Nat)) (hd:d.length<=1000000000000) (h:0<d.length):FQ 119 [.s (.row 0 1 d.length),.s (.fn 120)] 2 [(0,some (dgS 0 d))] .any 2 [(0,some (dgS 0 (ew d)))]:=by
 have:=zg d hd
 rwa [qD h,qD (by rw[eW];exact h)] at this
theorem pw (p:List Nd) (hw:mG p) (hI:re p) (h:dX p=true) (hp:p.length<=2048) (t:Fo) (ha:t.At p 0) (hv:t.V (List.replicate t.cnt (false,68))) (hs:t.size=p.length):
 FQ 65 [ao p] 0 [] (tf (ew (jR p (anS p t).F (anS p t).S t p.length 0 (anS p t).G))) 0 []:=by
 have hvl:=yM p hw;rw[h] at hvl
 have hn:∀ j,j<p.length->kK p j:=λj hj=>by
  obtain⟨sl,h1,h2⟩:=cn ha hv (Z08 _) (aa:j<0+t.size);exact uy h1 h2
 have hso:=SOK.anS ha;have hT:=(cQ false t 0 ⟨true,0,[]⟩ (tS p)).1;have hG:=(cQ false t 0 ⟨true,0,[]⟩ (tS p)).2.2;have hac:=yk p hp hw t ha hv hs;unfold anS at hso hac |-;generalize aX false t 0 ⟨true,0,[]⟩ (tS p)=U at*;rw[show (tS p).S.length=p.length by simp[tS]] at hT;rw[show (tS p).G.length=0 from rfl] at hG;obtain⟨T,D,F,G0⟩:=U;simp only at hso hT hG |-
 have hTl:∀ q∈T,q.segs.length<=1000000:=λq hq=>by have:=hso.1 q hq;omega
 generalize hR:jR p F T t p.length 0 G0=R;refine wW Tryz.func65 ?_
 repeat'(first|refine yA ?_|refine y2 ?_ ?_|refine an hvl ?_|(refine wX ?_;refine ot [] hac rfl rfl (by rfl) rfl rfl bc trivial rfl rfl (wr:=B3 p ⟨T,D,F,G0⟩) (by show [_,_,_,_,_]=_;rw[aP,aP];rfl) ?_)|exact y5|fail)
 refine Cy [0,1,2,3,4,5,6,7] 36 [(0,ao p),(3,.s (.ptr (some (0,0)))),(13,nI p.length),(14,nI 0)] (q7 p D.length T F G0) rfl rfl ⟨ah _,ah _,ah _,ah _,trivial⟩ ⟨rfl,rfl,rfl,bN rfl trivial⟩ (by unfold q7 bv;generalize List.flatMap bX _=cg;cases cg<;>rfl) ?_
 refine cD (σ:=Nat×List (Nat×Nat)) (λq=>[(14,nI q.1)]) (λq=>q7 p D.length T F q.2)
  (λq=>q.1<=p.length/\q.2.length<=2048+q.1*6145/\jR p F T t (p.length-q.1) q.1 q.2=R) (λq=>p.length-q.1) (0,G0) rfl (λ_=>rfl) ?_ ?_ ?_ ?_
 ·grind
 ·exact bc
 ·exact⟨rfl,rfl,rfl,iN rfl trivial⟩
 ·rintro⟨i,G⟩ ⟨h1,h2,h3⟩
  simp only at h1 h2 h3 |-
  rcases Z0a i p.length with hi|hi
  ·obtain⟨sl,g1,g2⟩:=cn ha hv (Z08 i) (aa:i<0+t.size)
   have hoo:=vX p hp hI i (hn i hi);rw[show p.length-i=(p.length-(i+1))+1 by omega] at h3;simp only[jR] at h3
   cases ho:aJ p i with
   |false=>
    rw[ho] at hoo h3;rw[if_neg ac] at h3;have hlen:=k9 (F:=F) (sc:=T.getD i z0) (G:=G) hp g1 g2;have hnd:=zY p hp hw hI hn D.length T hT hTl F hso.2 i _ _ sl G g1 g2 aa;generalize gR p F (T.getD i z0) (t.kid 0 i) i G=G2 at*
    have k2:e_ 8 (q7 p D.length T F G)=true:=(by unfold q7 bv;generalize List.flatMap bX _=cg;cases cg<;>rfl)
    repeat'(first|refine yA ?_|refine y2 ?_ ?_|refine y4 λh=>?_|refine wX (g7 [0] 0 hoo ?_)|(refine wX ?_;refine ja [0,1,2,3,4,5,6,7] hnd ?_ (wr:=[(0,some (eA p 3 D.length 8 G2.length)),(1,some (oG T)),(5,some (ca F)),(6,none),(8,bv 8 G2)]) (k2:=k2))|exact y5|fail)
    refine fq (i+1,G2) ⟨hi,ae,h3⟩ ae [0,1,2,3,4,5,8,9] rfl ?_ ?_ ?_
    ·repeat'(first|exact ah _|exact cT _|exact Z0o|refine⟨?_,?_⟩)
    ·exact⟨rfl,rfl,rfl,bN rfl trivial⟩
    ·exact (by unfold q7 bv;generalize List.flatMap bX _=cg;cases cg<;>rfl)
   |true=>
    rw[ho] at hoo h3;rw[if_pos rfl] at h3;have hlen:=k9 (F:=F) (sc:=T.getD i z0) (G:=G++[(i,4)]) hp g1 g2;have hnd:=zY p hp hw hI hn D.length T hT hTl F hso.2 i _ _ sl (G++[(i,4)]) g1 g2 ae;simp only[Z03,Z0n] at hlen;generalize gR p F (T.getD i z0) (t.kid 0 i) i (G++[(i,4)])=G2 at*;simp only[q7,Z03,Z0n] at hnd
    have k2:e_ 8 [(0,some (eA p 3 D.length 6 (G.length+1))),(1,some (oG T)),(5,some (ca F)),(6,bv 6 (G++[(i,4)]))]=true:=by
     unfold bv;generalize List.flatMap bX _=cg;cases cg<;>rfl
    repeat'(first|refine yA ?_|refine y2 ?_ ?_|refine y4 λh=>?_|refine wX (g7 [0] 0 hoo ?_)|(refine wX ?_;refine ot [0,1,2,3,4,5,6,7] (cL p D.length G i 4 aa) rfl (bI rfl rfl rfl) rfl rfl rfl bc mF rfl rfl (wr:=[(0,some (eA p 3 D.length 8 (G.length+1))),(6,none),(8,bv 8 (G++[(i,4)]))]) (by show [_,_,_]=_;rw[aP];rfl) ?_)|(refine wX ?_;refine ja [0,1,2,3,4,5,8,9] hnd ?_ (wr:=[(0,some (eA p 3 D.length 10 G2.length)),(1,some (oG T)),(5,some (ca F)),(8,none),(10,bv 10 G2)]) (k2:=k2))|exact y5|fail)
    refine fq (i+1,G2) ⟨hi,ae,h3⟩ ae [0,1,2,3,4,5,10,11] rfl ?_ ?_ ?_
    ·repeat'(first|exact ah _|exact cT _|exact Z0o|refine⟨?_,?_⟩)
    ·exact⟨rfl,rfl,rfl,bN rfl trivial⟩
    ·exact (by unfold q7 bv;generalize List.flatMap bX _=cg;cases cg<;>rfl)
  ·have he:i=p.length:=aa
   subst he;rw[Z3r] at h3;simp only[jR] at h3;subst h3;have hl:=eW G;unfold tf;rw[hl]
   rcases Z21 G.length with hz|hz
   ·obtain rfl:=Z15 hz
    show Ex _ _ _ _ _ [(0,some (eA p 3 D.length 6 0)),(1,some (oG T)),(5,some (ca F)),(6,none)] _
    repeat'(first|refine y1 ?_|refine y2 ?_ ?_|refine y4 λh=>?_|refine RegX.atCall (eO [6,7] Fq ?_)|refine fN 2 (.s (.frz (λk=>bX ((ew []).getD k (0,0))) 2 0)) (VLe.s SLe.row0) rfl ?_|refine cW (.inl rfl) rfl (ah _) rfl|refine y3 ?_|exact y5|fail)
   ·have hsp:=Fp G aa hz
    rw[show q7 p D.length T F G=[(0,some (eA p 3 D.length 6 G.length)),(1,some (oG T)),(5,some (ca F)),(6,some (dgS 6 G))] from by unfold q7;rw[qD hz]]
    repeat'(first|refine y1 ?_|refine y2 ?_ ?_|refine y4 λh=>?_|refine RegX.atCall (eO [6,7] hsp ?_)|refine Ex.fz 2 (λk=>bX ((ew G).getD k (0,0))) 2 rfl rfl rfl rfl (λ_ _=>rfl) (λk j x hk hx=>wB aa hx) rfl rfl ?_|refine cW (.inl rfl) rfl (ah _) rfl|refine y3 ?_|exact y5|fail)
section
variable {j:Nat}
abbrev Dgs:=List (Nat×Nat)
def dD:Dc:=⟨[],0,0⟩
def dcF (D:List Dc):V:=.s (.frz (λk=>gZ (D.getD k dD)) 3 D.length)
theorem DS {a:Dc} {x:S} (h:(gZ a)[j]? =some x):bL x=true:=by
 rcases j with _|_|_|j
 ·cases h;rfl
 ·cases h;rfl
 ·cases h;rfl
 ·simp[gZ] at h
theorem DN {a:Nat×Nat} {x:S} (h:(bX a)[j]? =some x):bL x=true:=by
 rcases j with _|_|j
 ·cases h;rfl
 ·cases h;rfl
 ·simp[bX] at h
end
theorem aZ:∀ (m:Bool) (t:Fo) (i:Nat) (lp r:Bool) (G:Dgs),aK m t i lp r G=G++aK m t i lp r []
 |true,.nil,_,_,_,G=>by simp[aK]
 |false,.nil,_,_,_,G=>by simp[aK]
 |true,.cons x k n,i,lp,r,G=>by
  simp only[aK];rw[aZ true n (i+1+k.size) lp r (if x.op=4 then aK false k (i+1) lp true G else G),aZ true n (i+1+k.size) lp r (if x.op=4 then aK false k (i+1) lp true [] else [])];split
  ·rw[aZ false k (i+1) lp true G];simp only[Z14]
  ·simp
 |false,.cons x k n,i,lp,r,G=>by
  simp only[aK]
  have h2:bU x.op i lp (dI i r G)=G++bU x.op i lp (dI i r []):=by
   grind [bU,dI]
  rw[h2];generalize bU x.op i lp (dI i r [])=E;rw[aZ false n (i+1+k.size) lp _ (if x.op=31 then aK true k (i+1) lp true (G++E) else if x.op=32 then aK true k (i+1) true true (G++E) else G++E),aZ false n (i+1+k.size) lp _ (if x.op=31 then aK true k (i+1) lp true E else if x.op=32 then aK true k (i+1) true true E else E)];split
  ·rw[aZ true k (i+1) lp true (G++E),aZ true k (i+1) lp true E];simp only[Z14]
  ·split
   ·rw[aZ true k (i+1) true true (G++E),aZ true k (i+1) true true E];simp only[Z14]
   ·simp only[Z14]
theorem kC (p:List Nd) (lim:Int):∀ (c j:Nat) (G:Dgs),gN p lim c j G=G++gN p lim c j []
 |0,_,G=>by simp[gN]
 |c+1,j,G=>by
  simp only[gN];rw[kC p lim c (j+1) (if (p.getD j dN).op=7/\lim<=ai p j then G++[(j,9)] else G),kC p lim c (j+1) (if (p.getD j dN).op=7/\lim<=ai p j then []++[(j,9)] else [])]
  grind
theorem Ah (p:List Nd) (bl:Fo) (i:Nat) (G:Dgs):l6 p bl i G=G++l6 p bl i []:=by
 unfold l6;rw[aZ _ _ _ _ _ (gN p _ _ _ G),aZ _ _ _ _ _ (gN p _ _ _ []),kC p _ _ _ G,Z14]
theorem cY (p:List Nd) (len w:Int):∀ (t:Fo) (i:Nat) (bit:Int) (G:Dgs),bR p len w t i bit G=G++bR p len w t i bit []
 | .nil,_,_,G=>by simp[bR]
 | .cons x k n,i,bit,G=>by
   simp only[bR];split
   ·simp
   ·split
    ·exact cY p len w n _ _ G
    ·rw[cY p len w n _ _ (if len<((bit+ai p (i+2)-1).tdiv (8*w)+1)*w then G++[(i,7)] else G),cY p len w n _ _ (if len<((bit+ai p (i+2)-1).tdiv (8*w)+1)*w then []++[(i,7)] else [])]
     grind
theorem uT (p:List Nd) (F:List (By×Nat)) (sc:Pth) (bl:Fo) (i:Nat) (G:Dgs):gH p F sc bl i G=G++gH p F sc bl i []:=by
 grind [gH,cY]
theorem xG (p:List Nd) (F:List (By×Nat)) (sc:Pth) (k:Fo) (i:Nat) (G:Dgs):gR p F sc k i G=G++gR p F sc k i []:=by
 grind [gR,uT,Ah]
def m9 (p:List Nd) (F:List (By×Nat)) (T:List Pth) (t:Fo) (i:Nat):Dgs:=(if aJ p i then [(i,4)] else [])++gR p F (T.getD i z0) (t.kid 0 i) i []
theorem jQ (p:List Nd) (F:List (By×Nat)) (T:List Pth) (t:Fo):∀ (c i:Nat) (G:Dgs),jR p F T t c i G=G++(List.range' i c).flatMap (m9 p F T t)
 |0,i,G=>by simp[jR]
 |c+1,i,G=>by
  simp only[jR];rw[jQ p F T t c (i+1),xG,Z31,Z0g];unfold m9
  grind
def Inn (lo hi:Nat) (E:Dgs):Prop:=E.Nodup/\∀ d∈E,lo<=d.1/\d.1<hi
theorem Inn.nil (lo hi:Nat):Inn lo hi []:=⟨Z5b,λd h=>by cases h⟩
theorem Inn.app {lo mid hi:Nat} {A B:Dgs} (ha:Inn lo mid A) (hb:Inn mid hi B) (h1:lo<=mid) (h2:mid<=hi):Inn lo hi (A++B):=by
 refine⟨Z3p.2 ⟨ha.1,hb.1,λa hA b hB e=>?_⟩,λd hd=>?_⟩
 ·have:=ha.2 a hA
  have:=hb.2 b hB
  grind
 ·rcases Z0w.1 hd with h|h
  ·have:=ha.2 d h;omega
  ·have:=hb.2 d h;omega
theorem Inn.mono {lo hi lo' hi':Nat} {A:Dgs} (ha:Inn lo hi A) (h1:lo'<=lo) (h2:hi<=hi'):Inn lo' hi' A:=⟨ha.1,λd hd=>by have:=ha.2 d hd;omega⟩
theorem Inn.one (i c:Nat):Inn i (i+1) [(i,c)]:=⟨av,λd hd=>by grind⟩
theorem CM (op:Int) (i:Nat) (lp r:Bool):Inn i (i+1) (bU op i lp (dI i r [])):=by
 unfold bU dI
 split<;>split
 ·exact Inn.one i 8
 ·refine⟨av,λd hd=>?_⟩
  grind
 all_goals grind [Inn.nil,Inn.one]
theorem fQ:∀ (m:Bool) (t:Fo) (i:Nat) (lp r:Bool),Inn i (i+t.size) (aK m t i lp r [])
 |true,.nil,i,_,_=>Inn.nil _ _
 |false,.nil,i,_,_=>Inn.nil _ _
 |true,.cons x k n,i,lp,r=>by
  simp only[aK,Fo.size];rw[aZ];refine Inn.app (mid:=i+1+k.size) ?_ ((fQ true n (i+1+k.size) lp r).mono (Z02 _) aa) aa aa;split
  ·exact (fQ false k (i+1) lp true).mono aa (Z02 _)
  ·exact Inn.nil _ _
 |false,.cons x k n,i,lp,r=>by
  simp only[aK,Fo.size];rw[aZ];refine Inn.app (mid:=i+1+k.size) ?_ ((fQ false n (i+1+k.size) lp _).mono (Z02 _) aa) aa aa;have h0:=CM x.op i lp r;generalize bU x.op i lp (dI i r [])=E at*;split
  ·rw[aZ]
   exact Inn.app h0 (fQ true k (i+1) lp true) aa aa
  ·split
   ·rw[aZ]
    exact Inn.app h0 (fQ true k (i+1) true true) aa aa
   ·exact h0.mono (Z02 _) aa
theorem cO:∀ (m:Bool) (t:Fo) (i:Nat) (lp r:Bool),∀ d∈aK m t i lp r [],d.2=8\/d.2=10
 |true,.nil,i,_,_=>λd h=>by cases h
 |false,.nil,i,_,_=>λd h=>by cases h
 |true,.cons x k n,i,lp,r=>by
  intro d hd;simp only[aK] at hd;rw[aZ] at hd
  rcases Z0w.1 hd with h|h
  ·split at h
   ·exact cO false k (i+1) lp true d h
   ·cases h
  ·exact cO true n _ lp r d h
 |false,.cons x k n,i,lp,r=>by
  intro d hd;simp only[aK] at hd;rw[aZ] at hd
  have h0:∀ d∈bU x.op i lp (dI i r []),d.2=8\/d.2=10:=by
   grind [bU,dI]
  generalize bU x.op i lp (dI i r [])=E at*
  rcases Z0w.1 hd with h|h
  ·split at h
   ·rw[aZ] at h
    rcases Z0w.1 h with h|h
    ·exact h0 d h
    ·exact cO true k _ lp true d h
   ·split at h
    ·rw[aZ] at h
     rcases Z0w.1 h with h|h
     ·exact h0 d h
     ·exact cO true k _ true true d h
    ·exact h0 d h
  ·exact cO false n _ lp _ d h
section
variable {i:Nat}
def gS (op:Int):Bool:=decide (10<=op/\op<=21)
def dv (p:List Nd) (t:Fo) (j:Nat) (a:Inf) (s:St) (i:Nat):St:=
 if gS (p.getD i dN).op then (co (p.getD i dN) (aw (t.kid j i)) i (bG t j i a).sc s).2 else s
theorem fg {α β:Type} {f g:β->α->β}:∀ {l:List α} {s:β},(∀ i∈l,∀ s,f s i=g s i)->l.foldl f s=l.foldl g s
 |[],_,_=>rfl
 |i::l,s,h=>by
  simp only[Z2s];rw[h i (Z17 ..),fg λj hj=>h j (Z0y _ hj)]
theorem qu {α β:Type} {f:β->α->β}:∀ {l:List α} {s:β},(∀ i∈l,∀ s,f s i=s)->l.foldl f s=s
 |[],_,_=>rfl
 |i::l,s,h=>by
  simp only[Z2s];rw[h i (Z17 ..),qu λj hj=>h j (Z0y _ hj)]
section
variable {p:List Nd}
theorem li {x:Nd} {k n:Fo} {j:Nat} (ha:(Fo.cons x k n).At p j) (a:Inf) (s:St):
 (List.range' j (Fo.cons x k n).size).foldl (dv p (.cons x k n) j a) s=
   (List.range' (j+1+k.size) n.size).foldl (dv p n (j+1+k.size) a) ((List.range' (j+1) k.size).foldl (dv p k (j+1) (bJ x (aw k) j a)) (dv p (.cons x k n) j a s j)):=by
 have e:List.range' j (Fo.cons x k n).size=j::(List.range' (j+1) k.size++List.range' (j+1+k.size) n.size):=by
  simp only[Fo.size];rw[show 1+k.size+n.size=(k.size+n.size)+1 by omega,Z31,Z5z]
 rw[e,Z2s,Z4a];rw[fg (f:=dv p (.cons x k n) j a) (g:=dv p k (j+1) (bJ x (aw k) j a)) (l:=List.range' (j+1) k.size)]
 ·refine fg λi hi s=>?_
  have:=Z20.1 hi;unfold dv;have h1: ¬i=j:=aa;have h2: ¬i<j+1+k.size:=aa;simp only[Fo.kid,bG,if_neg h1,if_neg h2]
 ·intro i hi s
  have:=Z20.1 hi;unfold dv;have h1: ¬i=j:=aa;have h2:i<j+1+k.size:=aa;simp only[Fo.kid,bG,if_neg h1,if_pos h2]
theorem uQ {t:Fo} {j:Nat} (ha:t.At p j) (hq:t.all quiet) (a:Inf) (s:St):(List.range' j t.size).foldl (dv p t j a) s=s:=by
 grind [dv,gS,quiet,qu,Fo.all_at]
theorem DB {x:Nd} {nm:Pth} {a:Inf} {s:St}:(co x nm i a.sc s).1=(bJ x nm i a).sc:=by
 grind [co,bJ]
theorem lA {op kids c:Int} (h:bn c op=true) (hc:c=68\/c=70) (hb:ge op=false):∀ b∈(aq op kids).1,qK (b.toNat:Int)=true:=by
 unfold ge at hb;simp only[decide_eq_false_iff_not] at hb
 have:op=13\/op=14\/op=15\/op=18\/op=19\/op=20\/op=21:=by
  rcases mq hc h with e|e|e|e|e|e|e|e|e|e|e|e<;>omega
 rcases this with e|e|e|e|e|e|e<;>rw[e]
 ·exact λb hb=>(ac:∀ b∈(aq 13 0).1,qK (b.toNat:Int)=true) b hb
 ·exact λb hb=>(ac:∀ b∈(aq 14 0).1,qK (b.toNat:Int)=true) b hb
 ·exact λb hb=>(ac:∀ b∈(aq 15 0).1,qK (b.toNat:Int)=true) b hb
 ·exact λb hb=>(ac:∀ b∈(aq 18 0).1,qK (b.toNat:Int)=true) b hb
 ·exact λb hb=>(ac:∀ b∈(aq 19 0).1,qK (b.toNat:Int)=true) b hb
 ·exact λb hb=>(ac:∀ b∈(aq 20 0).1,qK (b.toNat:Int)=true) b hb
 ·exact λb hb=>(ac:∀ b∈(aq 21 0).1,qK (b.toNat:Int)=true) b hb
theorem eQ {c':Int}:∀ (ls:List Int) (t:Fo) (j:Nat) (a:Inf) (s:St),ls.all fY=true->t.At p j->t.V (ls.map (λc=>(false,c))++[(true,c')])->
 (∀ (bl:Fo) (i:Nat) (s:St) (b:Inf),bl.At p i->bl.V (List.replicate bl.cnt (false,c'))->b.sc=a.sc->bl.size<t.size->aX false bl i a.sc s=(List.range' i bl.size).foldl (dv p bl i b) s)->
 aX true t j a.sc s=(List.range' j t.size).foldl (dv p t j a) s
 |[],t,j,a,s,_,ha,hv,ih=>by
  obtain⟨y,bl,n,rfl,h1,h2,h3⟩:=kJ hv;have:=iO h1;subst this;rw[li ha]
  have hst:dv p (.cons y bl .nil) j a s j=s:=by
   grind [At.get,dv,gS]
  rw[hst]
  have hsc:(bJ y (aw bl) j a).sc=a.sc:=by
   grind [bJ]
  have:=ih bl (j+1) s (bJ y (aw bl) j a) ha.2.2.1 h3 hsc (by simp only[Fo.size];omega)
  grind [aX,Fo.size]
 |c::ls,t,j,a,s,hl,ha,hv,ih=>by
  simp only[Z1b,Z07] at hl;obtain⟨y,n,rfl,h1,hop⟩:=fk hl.1 hv;rw[li ha]
  have hst:dv p (.cons y .nil n) j a s j=s:=by
   grind [At.get,dv,gS]
  rw[hst];have: ¬y.op=4:=aa;simp only[aX,if_neg this,Fo.size,Z0p,Z50,Z5x]
  have hn:n.At p (j+1):=by have:=ha.2.2.2;simpa [Fo.size] using this
  exact eQ ls n (j+1) a s hl.2 hn h1 (λbl i s b g1 g2 g3 g4=>ih bl i s b g1 g2 g3 (by simp only[Fo.size];omega))
theorem jz:∀ (N:Nat) (t:Fo) (c:Int) (j:Nat) (a:Inf) (s:St),t.size<N->(c=68\/c=70)->t.At p j->t.V (List.replicate t.cnt (false,c))->aX false t j a.sc s=(List.range' j t.size).foldl (dv p t j a) s
 |0,_,_,_,_,_,h,_,_,_=>absurd h (Z1m _)
 |N+1,.nil,_,_,_,_,_,_,_,_=>rfl
 |N+1,.cons x k n,c,j,a,s,hN,hc,ha,hv=>by
  simp only[Fo.size] at hN;have hv':=hv;simp only[Fo.cnt,Z16] at hv';obtain⟨⟨h1,h2,h3⟩,h4,h5⟩:=hv';rw[li ha];simp only[aX];have hd:=mq hc h1
  have hst:dv p (.cons x k n) j a s j=(co x (aw k) j a.sc s).2:=by
   unfold dv gS;rw[At.get ha,if_pos (by simp only[decide_eq_true_eq];omega)];simp only[Fo.kid,bG,if_true]
  rw[hst]
  have hk:(if ge x.op then aX true k (j+1) (co x (aw k) j a.sc s).1 (co x (aw k) j a.sc s).2 else (co x (aw k) j a.sc s).2)=(List.range' (j+1) k.size).foldl (dv p k (j+1) (bJ x (aw k) j a)) (co x (aw k) j a.sc s).2:=by
   cases hb:ge x.op
   ·simp only[Z0l,if_false]
    rw[uQ ha.2.2.1]
    refine fF h4 λsl hsl=>?_
    obtain⟨b,hb',rfl⟩:=Z1d.1 hsl;exact lA h1 hc hb b hb'
   ·simp only[if_true]
    rw[DB]
    have ih:∀ (c':Int),(c'=68\/c'=70)->∀ (bl:Fo) (i:Nat) (s:St) (b:Inf),bl.At p i->bl.V (List.replicate bl.cnt (false,c'))->b.sc=(bJ x (aw k) j a).sc->bl.size<k.size->aX false bl i (bJ x (aw k) j a).sc s=(List.range' i bl.size).foldl (dv p bl i b) s:=λc' hc' bl i s b g1 g2 g3 g4=>by
     rw[<-g3];exact jz N bl c' i b s aa hc' g1 g2
    unfold ge at hb;simp only[decide_eq_true_eq] at hb
    rcases hb with e|e|e|e|e<;>rw[e] at h4
    ·exact eQ (c':=68) [110] k (j+1) _ _ rfl ha.2.2.1 h4 (ih 68 (.inl rfl))
    ·exact eQ (c':=68) [115] k (j+1) _ _ rfl ha.2.2.1 h4 (ih 68 (.inl rfl))
    ·exact eQ (c':=68) [115,105,105] k (j+1) _ _ rfl ha.2.2.1 h4 (ih 68 (.inl rfl))
    ·exact eQ (c':=70) [110,105,105] k (j+1) _ _ rfl ha.2.2.1 h4 (ih 70 (.inr rfl))
    ·exact eQ (c':=70) [110,110,105,105] k (j+1) _ _ rfl ha.2.2.1 h4 (ih 70 (.inr rfl))
  rw[hk];exact jz N n c (j+1+k.size) a _ aa hc ha.2.2.2 h5
end
section
variable {p:List Nd} {t:Fo}
def lK (p:List Nd) (t:Fo) (s:St) (i:Nat):St:=if gS (p.getD i dN).op then (co (p.getD i dN) (aw (t.kid 0 i)) i (aD t i).sc s).2 else s
theorem B1 (ha:t.At p 0) (hv:t.V (List.replicate t.cnt (false,68))):anS p t=(List.range t.size).foldl (lK p t) (tS p):=by
 have:=jz (p:=p) (t.size+1) t 68 0 ini (tS p) (Z1t _) (.inl rfl) ha hv;rw[Z4g];exact this
def xC (p:List Nd) (t:Fo) (i:Nat):Bool:=(au (aD t i).sc (aw (t.kid 0 i))).2
def aV (p:List Nd) (t:Fo) (i:Nat):By:=(jZ p t i).path
theorem AS {q:Pth} (h:bz q=true):aH q≠[]:=by
 grind [bz,aH]
theorem fU (ha:t.At p 0) (hi:i<t.size):aV p t i=if bw (p.getD i dN).op=true/\xC p t i=true then aH (au (aD t i).sc (aw (t.kid 0 i))).1 else []:=by
 grind [aV,jZ,r9,xC,tn]
theorem fT (ha:t.At p 0) (hi:i<t.size):aV p t i≠[]↔bw (p.getD i dN).op=true/\xC p t i=true:=by
 rw[fU ha hi];split
 ·rename_i h
  exact⟨λ_=>h,λ_=>AS (vo h.2)⟩
 all_goals grind
def lB (p:List Nd) (t:Fo) (i:Nat):List Dc:=if aV p t i=[] then [] else [⟨aV p t i,(p.getD i dN).op,i⟩]
def gM (p:List Nd) (t:Fo) (i:Nat):Bool:=(bw (p.getD i dN).op||decide ((p.getD i dN).op=10))&& !xC p t i
theorem pP (ha:t.At p 0) (hi:i<t.size) (s:St):(lK p t s i).D=s.D++lB p t i/\(lK p t s i).F=(if aV p t i=[] then s.F else oR s.F (aV p t i) i)/\
 (lK p t s i).G=(if gM p t i then s.G++[(i,2)] else if aV p t i=[] then s.G else lz s.F s.G (aV p t i) i)/\(lK p t s i).S=if gS (p.getD i dN).op then s.S.set i (aD t i).sc else s.S:=by
 have hne:=fT ha hi;have heq:=fU ha hi;unfold lB gM;generalize hP:aV p t i=P at*;unfold lK xC at*;unfold gS bw at*;generalize (p.getD i dN)=x at*;generalize aw (t.kid 0 i)=nm at*;generalize (aD t i).sc=sc at*;by_cases hd:10<=x.op/\x.op<=21
 ·rw[decide_eq_true hd]
  simp only[if_true];unfold co
  grind [St.sc,St.rep,St.dec]
 all_goals grind
def pQ (p:List Nd) (t:Fo) (m:Nat):St:=(List.range m).foldl (lK p t) (tS p)
theorem kT (m:Nat):pQ p t (m+1)=lK p t (pQ p t m) m:=by
 unfold pQ;rw[Z3a,Z4a];rfl
def dt (p:List Nd) (t:Fo) (path:By):Nat->Option Nat
 |0=>none
 |m+1=>match dt p t path m with|some i=>some i|none=>if aV p t m=path then some m else none
theorem Ap (F:List (By×Nat)) (k path:By) (i:Nat):oL (F++[(k,i)]) path=match oL F path with|some v=>some v|none=>if k=path then some i else none:=by
 induction F with
 |nil=>simp only[Z1e,oL]
 |cons a F ih=>
  grind [oL]
theorem uc (ha:t.At p 0) {path:By} (hp:path≠[]):∀ {m:Nat},m<=t.size->oL (pQ p t m).F path=dt p t path m
 |0,_=>rfl
 |m+1,h=>by
  have ih:=uc ha hp (m:=m) aa;rw[kT,(pP ha aa _).2.1]
  grind [dt,Ap,oR]
theorem fB {path:By}:∀ {m i:Nat},dt p t path m=some i->i<m/\aV p t i=path/\∀ k,k<i->aV p t k≠path
 |0,_,h=>by cases h
 |m+1,i,h=>by
  simp only[dt] at h;split at h
  ·rename_i v hv
   cases h;have:=fB hv
   grind
  ·rename_i hn
   split at h
   ·rename_i he
    cases h;refine⟨Z1t _,he,λk hk hc=>?_⟩
    have:∀ m,dt p t path m=none->∀ k,k<m->aV p t k≠path:=by
     intro m
     induction m with
     |zero=>grind
     |succ m ih=>
      grind [dt]
    grind
   ·cases h
theorem iF {path:By}:∀ {m:Nat},dt p t path m=none->∀ k,k<m->aV p t k≠path
 |0,_,k,hk=>by omega
 |m+1,h,k,hk=>by
  simp only[dt] at h;split at h
  ·cases h
  ·rename_i h0
   split at h
   ·cases h
   ·rename_i h1
    rcases Z0a k m with q|q
    ·exact iF h0 k q
    all_goals grind
def jf (p:List Nd) (t:Fo) (i:Nat):Bool:=decide (aV p t i≠[])&&(dt p t (aV p t i) i).isSome
def BA (p:List Nd) (t:Fo) (i:Nat):List (Nat×Nat):=if gM p t i then [(i,2)] else if jf p t i then [(i,3)] else []
theorem BV (ha:t.At p 0) (hi:i<t.size) (h:gM p t i=true):aV p t i=[]:=by
 grind [fU,gM]
theorem ze (ha:t.At p 0):∀ {m:Nat},m<=t.size->(pQ p t m).G=(List.range m).flatMap (BA p t)
 |0,_=>rfl
 |m+1,h=>by
  have ih:=ze ha (m:=m) aa;rw[kT,(pP ha aa _).2.2.1,Z3a,Z0r,<-ih];simp only[Z0g,List.flatMap_nil,Z0u]
  grind [uc,BA,jf,lz]
theorem zb (ha:t.At p 0):∀ {m:Nat},m<=t.size->(pQ p t m).S.length=p.length/\∀ i,i<m->i<p.length->gS (p.getD i dN).op=true->(pQ p t m).S.getD i z0=(aD t i).sc
 |0,_=>⟨by simp[pQ,tS],λi hi=>by omega⟩
 |m+1,h=>by
  obtain⟨ih1,ih2⟩:=zb ha (m:=m) aa;rw[kT,(pP ha aa _).2.2.2]
  grind
end
end
section
variable {i:Nat}
section
variable {p:List Nd} {t:Fo} {cs:List (Bool×Int)}
theorem qi (ha:t.At p 0) (hv:t.V cs) (hi:i<t.size) (hop:(p.getD i dN).op=14):
 (t.kid 0 i).size=5+(am (t.kid 0 i)).size/\∀ j,i<j->j<i+1+(t.kid 0 i).size->(aD t j).me=(i:Int):=by
 obtain⟨h0,h1,h2,h3,_⟩:=bQ ha hv hi ae;rw[hop,fb] at h2;have hk:=d_ (c':=83) [115,105,105,105] (t.kid 0 i) ac h2;refine⟨ae,λj hj1 hj2=>?_⟩;have hq:(t.kid 0 i).all quiet:=fF h2 ac;have:=(cH ha (Z08 i) aa hj1 hj2 ini).2
 grind [vb,bJ]
theorem CE (ha:t.At p 0) (hv:t.V cs) (hi:i<t.size) (hop:(p.getD i dN).op=16):
 (t.kid 0 i).size=4+(am (t.kid 0 i)).size/\t.kid 0 (i+4)=am (t.kid 0 i)/\(aD t (i+4)).pa=(i:Int)/\∀ e∈(am (t.kid 0 i)).starts (i+5),(aD t e).pa=((i+4:Nat):Int):=by
 obtain⟨h0,h1,h2,h3,_⟩:=bQ ha hv hi ae;rw[hop,sx] at h2;have hk:=d_ (c':=70) [110,105,105] (t.kid 0 i) ac h2;obtain⟨k1,k2⟩:=hk.2 (i+1);have e4:i+1+[110,105,105].length=i+4:=av;rw[show (i+1+([110,105,105]:List Int).length)=i+4 by simp] at k1 k2;have hs:(t.kid 0 i).size=4+(am (t.kid 0 i)).size:=ae;have kk:=cH ha (Z08 i) aa (show i<i+4 by omega) aa ini
 have c4:aD t (i+4)=bJ (p.getD i dN) (aw (t.kid 0 i)) i (aD t i):=by
  grind [eR]
 have t4:t.kid 0 (i+4)=am (t.kid 0 i):=ae;have hle:=bC (t:=t) (Z08 i) aa;refine⟨hs,t4,by rw[c4];rfl,λe he=>?_⟩;have hr:=bK he;have ke:=cH ha (Z08 (i+4)) aa (show i+4<e by omega) ae ini;show (bG t 0 e ini).pa=_;rw[ke.2,t4,eR he];rfl
end
def kD (p:List Nd) (t:Fo):Dgs:=jR p (anS p t).F (anS p t).S t p.length 0 (anS p t).G
theorem xj (G:Dgs):(ew G).Perm G:=Z57 G _
end
