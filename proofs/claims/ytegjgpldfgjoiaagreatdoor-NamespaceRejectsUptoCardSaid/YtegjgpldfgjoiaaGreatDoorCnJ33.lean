import Derived.Test.YtegjgpldfgjoiaaGreatDoorCnJ01
import Derived.Test.YtegjgpldfgjoiaaGreatDoorCnJ32
import Derived.Test.YtegjgpldfgjoiaaGreatDoorCnJ31
set_option linter.all false
set_option maxHeartbeats 40000000
set_option maxRecDepth 100000
namespace Go.Proofs.YtegjgpldfgjoiaaGreatDoor
section
open Go Ab
section
variable {t:Fo} {i:Nat}
def cz (t:Fo):List Nat:=(List.range t.size).map λi=>i+1+(t.kid 0 i).size
theorem Cc (hi:i<t.size):(cz t).getD i 0=i+1+(t.kid 0 i).size:=by
 simp[cz,Z00,hi]
theorem wS {p:List Nd} {cs:List (Bool×Int)} (ha:t.At p 0) (hv:t.V cs) (hs:t.size=p.length):EOK p (cz t):=by
 refine⟨by simp[cz,hs],λi hi=>?_⟩;obtain⟨sl,h1,_⟩:=cM (i:=i) ha hv (Z08 i) aa;rw[Cc aa];exact At.ends1 h1
def iU (t:Fo) (i:Nat):List Nat:=(List.range t.size).map λj=>if j<i then 0 else j+1+(t.kid 0 j).size
theorem E9 (t:Fo) (i:Nat):(iU t i).length=t.size:=by simp[iU]
theorem E_ {j:Nat} (hj:j<t.size) (h:i<=j):(iU t i).getD j 0=j+1+(t.kid 0 j).size:=by
 simp[iU,Z00,hj];omega
theorem Fa (t:Fo):iU t t.size=List.replicate t.size 0:=by
 apply Z3j
 all_goals grind [iU]
theorem Cd (t:Fo):iU t 0=cz t:=by simp[iU,cz]
theorem E8 (hi:i<t.size):(iU t (i+1)).set i (i+1+(t.kid 0 i).size)=iU t i:=by
 apply Z3j
 all_goals grind [iU]
end
end
section
open Go Ab Go.Shelf Go.Lib Go.Sort
theorem Ef (x y:Nat×Nat):ltOf Je x y=true↔(x.1<y.1\/(x.1=y.1/\x.2<y.2)):=by
 grind [ltOf,Je,compareInt]
theorem tD (x y:Nat×Nat):ltOf Je x y=false↔ ¬(x.1<y.1\/(x.1=y.1/\x.2<y.2)):=by
 rw[<-Ef];simp
theorem GQ:SWO (ltOf Je) where
 irrefl x:=by rw[tD];omega
 trans x y z:=by simp only[Ef];omega
 ntrans x y z:=by simp only[tD];omega
theorem GN (x y:Nat×Nat) (h1:ltOf Je x y=false) (h2:ltOf Je y x=false):x=y:=by
 grind [tD]
def fO (G:List (Nat×Nat)):List (Nat×Nat):=G.mergeSort λx y=> !(ltOf Je) y x
theorem gb (G:List (Nat×Nat)):(fO G).length=G.length:=by unfold fO;simp
theorem IM (φ:Ph):∀ (d:List (Nat×Nat)) (xs:List Value),All2 (Sr φ) (d.flatMap cv) xs->xs=d.flatMap iV
 |[],[],_=>rfl
 |[],_::_,h=>h.elim
 |x::d,xs,h=>by
  rw[Z0g] at h |-
  match xs,h with
  |a::b::r,⟨h1,h2,h3⟩=>
   have e1:a=.int .i64 (x.1:Int):=h1;have e2:b=.int .i64 (x.2:Int):=h2;rw[e1,e2,IM φ d r h3];rfl
  |[_],⟨_,h2⟩=>exact h2.elim
  |[],h=>exact h.elim
theorem Jc (φ:Ph):∀ (d:List (Nat×Nat)),All2 (Sr φ) (d.flatMap cv) (d.flatMap iV)
 |[]=>trivial
 |x::d=>by
  rw[Z0g,Z0g];exact All2.append ⟨rfl,rfl,trivial⟩ (Jc φ d)
theorem kv:∀ d:List (Nat×Nat),(d.flatMap iV).length=d.length*2
 |[]=>rfl
 |x::d=>by rw[Z0g,Z03,kv d];simp only[Z04];simp[iV];omega
theorem AO:∀ (d:List (Nat×Nat)) (t:Nat),t<d.length*2->(d.flatMap iV)[t]! =(iV d[t/2]!)[t%2]!
 |[],t,h=>by grind
 |x::d,0,h=>rfl
 |x::d,1,h=>rfl
 |x::d,t+2,h=>by
  have:=AO d t ae;rw[show (t+2)/2=t/2+1 by omega,show (t+2)%2=t%2 by omega]
  grind [iV]
theorem rX (d:List (Nat×Nat)):flatK iV 2 d.toArray=(d.flatMap iV).toArray:=by
 refine ext_get! (by simp only[size_flatK,Z3z,kv]) λt ht=>?_
 have ht':t<d.length*2:=by simpa using ht
 grind [get_flatK,AO]
theorem E4:∀ args w,(callFunc 120 args).run Tryz.prog w=.ok (.enter 120 args) w:=by
 intro args w;simp only[callFunc,Z09,run_program,Z05,Tryz.func120];rfl
theorem tk (pre ys zs rest:List Value) (h:zs.length=ys.length):putCells id pre.length zs.toArray (pre++(ys++rest)).toArray=(pre++(zs++rest)).toArray:=by
 unfold putCells
 grind
theorem C2 (w:World) (b o n:Nat) (D:Array (Nat×Nat)) (os:Array Obj) (j:Nat) (hj:j<w.heap.size) (hb:j≠b):(sortWorldK iV 2 w b o n D os).heap[j]? =w.heap[j]? :=by
 show ((w.heap.modify b _)++os)[j]? =_
 grind
theorem Lu (w:World) (b n:Nat) (d:List (Nat×Nat)) (os:Array Obj) (pre ys rest:List Value) (ty:TypeId) (fr:Nat×Nat) (hw:w.heap[b]? =some (.cells (pre++(ys++rest)).toArray ty fr)) (hl:ys.length=d.length*2):
 (sortWorldK iV 2 w b pre.length n d.toArray os).heap[b]? =some (.cells (pre++(d.flatMap iV++rest)).toArray ty fr):=by
 have hb:b<w.heap.size:=by
  grind
 show ((w.heap.modify b (onCells (putCells id pre.length (flatK iV 2 d.toArray))))++os)[b]? =_;rw[Array.getElem?_append_left ae,Z5v,if_pos rfl,hw,rX];show some (Obj.cells (putCells id pre.length (d.flatMap iV).toArray (pre++(ys++rest)).toArray) ty fr)=_;rw[tk pre ys _ rest (by rw[kv,hl])]
theorem EG (w:World) (b:Nat) (d:List (Nat×Nat)) (pre rest:List Value) (ty:TypeId) (fr:Nat×Nat) (hw:w.heap[b]? =some (.cells (pre++(d.flatMap iV++rest)).toArray ty fr))
 (hfr:∀ o,o<(pre++(d.flatMap iV++rest)).length->(fr.1<=o&&o<fr.2)=false):HoldsK iV 2 w b pre.length d.toArray:=by
 intro j hj;rw[rX] at hj |-;simp only[Z3z] at hj;constructor
 ·unfold World.cell?
  grind
 ·unfold World.frozen?
  grind
theorem jB {ty g w:Nat} {cs:List S} (h:cs≠[]):fq ty g w cs=some {cells:=cs,ty:=ty,more:=true,sym:=true,flat:=true,gh:=some (g,w)}:=by
 cases cs with
 |nil=>grind
 |cons c cs=>rfl
theorem Fj {d:List (Nat×Nat)} (h:0<d.length):d.flatMap cv≠[]:=λe=>by
 grind [yS]
theorem C_ (d:List (Nat×Nat)) (hd:d.length<=1000000000000):
 FQ 119 [.s (.row 0 1 d.length),.s (.fn 120)] 2 [(0,bM 0 d)] .any 2 [(0,bM 0 (fO d))]:=by
 refine⟨aK,λφ xs w hx hg hf=>?_⟩
 match xs,hx with
 |[x0,x1],⟨h0,h1,_⟩=>
  have h1:x1=.func (.func 120) #[] #[]:=h1;subst h1
  rcases Z21 d.length with hz|hz
  ·obtain rfl:=Z15 hz
   have h0:x0=.slice none 0 0:=by
    rcases h0 with ⟨_,h⟩|⟨h,_⟩
    all_goals grind
   subst h0;refine (AnyF.slices_SortFunc_none Tryz.sortD none 0 _ w).mono ?_;rintro e w' ⟨rfl,rfl⟩
   have e0:fO []=[]:=by simp[fO]
   rw[e0];exact⟨φ,_,rfl,trivial,hg,hf,Stp.refl _ _ _,Z02 _,λ_ _=>rfl⟩
  ·have hs1:=gb d
   have eL:bM 0 d=some {cells:=d.flatMap cv,ty:=112,more:=true,sym:=true,flat:=true,gh:=some (1,2)}:=jB (Fj hz);have CH:bM 0 (fO d)=some {cells:=(fO d).flatMap cv,ty:=112,more:=true,sym:=true,flat:=true,gh:=some (1,2)}:=jB (Fj aa);rw[eL] at hg;rw[eL,CH]
   obtain⟨b,k,hb,hg1,rfl,hk⟩:∃ b k,φ.f 0=some b/\φ.f 1=some (k,0)/\x0=.slice (some ⟨b.1,b.2,none⟩) d.length k/\d.length<=k:=by
    rcases h0 with ⟨h,_⟩|⟨_,h⟩
    ·omega
    ·exact h
   obtain⟨b',hb',hbl⟩:=hg.hr 0 _ rfl;obtain rfl:b'=b:=ae;obtain⟨pre,ys,rest,fr,hw,hpre,hys,_,hro,hgh,_⟩:=hbl;have hy:=IM _ d ys hys;have hro:=hro rfl;subst hy
   have hwr:∀ c,Wr φ [(0,some {cells:=d.flatMap cv,ty:=112,more:=true,sym:=true,flat:=true,gh:=some (1,2)})] c↔c=b'.1:=λc=>by
    constructor
    ·rintro⟨i,bl,e,hi,he,rfl,_⟩
     rw[aY] at hi;split at hi
     ·grind
     ·cases hi
    ·rintro rfl;exact⟨0,_,b',rfl,hb,rfl,rfl⟩
   have hwr':∀ c,Wr φ [(0,some {cells:=(fO d).flatMap cv,ty:=112,more:=true,sym:=true,flat:=true,gh:=some (1,2)})] c↔c=b'.1:=λc=>by
    constructor
    ·rintro⟨i,bl,e,hi,he,rfl,_⟩
     rw[aY] at hi;split at hi
     ·grind
     ·cases hi
    ·rintro rfl;exact⟨0,_,b',rfl,hb,rfl,rfl⟩
   have hlt:b'.1<w.heap.size:=by
    grind
   have hH:=EG w b'.1 d pre rest _ fr hw hro;rw[hpre] at hH;have ht:=j8 (P:=Tryz.prog) (t:=112) (ag:=true) (sz:=2) aK;refine (AnyQ.slices_SortFunc_total Tryz.sortD 2 (λw=>(ht w).1) (λw=>(ht w).2) iV (λ_=>rfl) (λx v hv=>by simp[iV] at hv;rcases hv with rfl|rfl<;>rfl) Je GQ 120 #[] b'.1 b'.2 k d.toArray w E4 ?_ hH hlt ae GN).mono ?_
   ·intro m os dk _ x y
    refine (Cl (x.1:Int) (x.2:Int) (y.1:Int) (y.2:Int) _).mono ?_;rintro e w' ⟨rfl,q,os',rfl⟩;exact⟨rfl,q,os',rfl⟩
   ·rintro e w' ⟨rfl,n,os,rfl⟩
    have ho:=λj=>C2 w b'.1 b'.2 n (fO d).toArray os j
    have hat:=Lu w b'.1 n (fO d) os pre _ rest _ fr hw (by rw[kv,gb]);rw[hpre] at hat;refine⟨φ,_,rfl,trivial,⟨λi bl hi=>?_,λi j bl bl' c c' hi hj _ _ _=>?_,λc l hz'=>?_,hg.gz⟩,hf,⟨rfl,rfl,rfl,?_,λc hc hn=>ho c hc λe=>hn ((hwr c).2 e),λj bl c hj hc hcl=>?_,λ_ _ h=>h,λ_ _ h=> .inl h⟩,Z02 _,λ_ _=>rfl⟩
    ·rw[aY] at hi
     split at hi
     ·rename_i h;subst h;obtain rfl:=Z1c hi
      refine⟨b',hb,pre,_,rest,fr,hat,hpre,Jc _ _,λh=>(by cases h),λ_ o ho'=>hro o ?_,λg z hgz=>?_,λg h=>(by cases h)⟩
      ·simp only[Z03,kv,gb] at ho' |-;exact ho'
      ·obtain⟨k',hk',hz'⟩:=hgh g z hgz
       refine⟨k',hk',?_⟩;simp only[Z03,kv,gb] at hz' |-;exact hz'
     ·cases hi
    ·rw[aY] at hi hj
     split at hi
     ·split at hj
      ·rename_i h h';exact .inl (h.symm.trans h')
      ·cases hj
     ·cases hi
    ·obtain⟨⟨ty,fr',e⟩,hn⟩:=hg.fz c l hz'
     have hne:c≠b'.1:=λe=>hn ((hwr c).2 e)
     exact⟨⟨ty,fr',(ho c (hg.fzlt hz') hne).trans e⟩,λh=>hne ((hwr' c).1 h)⟩
    ·show w.heap.size<=((w.heap.modify b'.1 _)++os).size
     simp
    ·rw[aY] at hj
     split at hj
     ·rename_i h;subst h
      exact⟨0,_,c,rfl,hc,rfl,λh=>(by cases h),.inl rfl⟩
     ·cases hj
end
section
open Go Ab
def oC (G:List (Nat×Nat)):V:=.s (.frz (λk=>cv (G.getD k (0,0))) 2 G.length)
theorem ue {G:List (Nat×Nat)} {k j:Nat} {x:S} (hk:k<G.length) (hx:(cv (G.getD k (0,0)))[j]? =some x):(G.flatMap cv)[k*2+j]? =some x/\bL x=true:=by
 induction G generalizing k with
 |nil=>simp at hk
 |cons y G ih=>
  cases k with
  |zero=>
   rw[Z0g]
   match j,hx with
   |0,hx=>cases hx;exact⟨rfl,rfl⟩
   |1,hx=>cases hx;exact⟨rfl,rfl⟩
   |_+2,hx=>cases hx
  |succ k=>
   have:=ih (k:=k) ae ae;rw[Z0g,show (k+1)*2+j=(k*2+j)+2 by omega];exact this
theorem JB:FQ 119 [.s (.row 0 1 0),.s (.fn 120)] 2 [] .any 2 []:=by
 have:=C_ [] ac;rw[show fO []=[] by simp[fO]] at this;exact⟨this.1,λφ xs w hx hg hf=>(this.2 φ xs w hx (hg.sub λi bl h=>by rw[aY] at h;split at h<;>cases h) hf).mono λe w' ⟨φ',x,a,b,c,d,e,f⟩=>⟨φ',x,a,b,c.sub λi bl h=>(by cases h),d,⟨e.os,e.tape,e.output,e.size,λb hb hn=>e.keep b hb λ⟨i,bl,c,h,_⟩=>(by rw[aY] at h;split at h<;>cases h),λj bl b h=>(by cases h),e.zle,λb l hb=>(e.zfr b l hb).elim .inl λh=>h.elim (λh=> .inr (.inl h)) λ⟨i,bl,c,h,_⟩=>(by rw[aY] at h;split at h<;>cases h)⟩,f⟩⟩
abbrev dgS (g:Nat) (G:List (Nat×Nat)):Bl:={cells:=G.flatMap cv,ty:=112,more:=true,sym:=true,flat:=true,gh:=some (g+1,2)}
theorem uf {g:Nat} {G:List (Nat×Nat)} (h:0<G.length):bM g G=some (dgS g G):=jB (Fj h)
theorem JA (d:List (Nat×Nat)) (hd:d.length<=1000000000000) (h:0<d.length):FQ 119 [.s (.row 0 1 d.length),.s (.fn 120)] 2 [(0,some (dgS 0 d))] .any 2 [(0,some (dgS 0 (fO d)))]:=by
 have:=C_ d hd
 rwa [uf h,uf (by rw[gb];exact h)] at this
theorem FG (p:List Nd) (hw:oh p) (h:eR p=false):FQ 65 [al p] 0 [] (oC [(0,1)]) 0 []:=by
 have hv:=uT p hw;rw[h] at hv;refine wW Tryz.func65 ?_
 repeat'(first|refine y1 ?_|refine y2 ?_ ?_|refine an hv ?_|refine Ex.fz 2 (λk=>cv ([(0,1)].getD k (0,0))) 2 rfl rfl rfl rfl (λ_ _=>rfl) (λk j x hk hx=>ue hk hx) rfl rfl ?_|refine dv (.inl rfl) rfl (ah _) rfl|refine y3 ?_|exact y5|fail)
theorem sj (p:List Nd) (hw:oh p) (hI:li p) (h:eR p=true) (hp:p.length<=2048) (t:Fo) (ha:t.At p 0) (hv:t.V (List.replicate t.cnt (false,68))) (hs:t.size=p.length):
 FQ 65 [al p] 0 [] (oC (fO (lD p (anS p t).F (anS p t).S t p.length 0 (anS p t).G))) 0 []:=by
 have hvl:=uT p hw;rw[h] at hvl
 have hn:∀ j,j<p.length->kN p j:=λj hj=>by
  obtain⟨sl,h1,h2⟩:=cM ha hv (Z08 _) (aa:j<0+t.size);exact yn h1 h2
 have hso:=SOK.anS ha;have hT:=(dt false t 0 ⟨true,0,[]⟩ (xE p)).1;have hG:=(dt false t 0 ⟨true,0,[]⟩ (xE p)).2.2;have hac:=Ct p hp hw t ha hv hs;unfold anS at hso hac |-;generalize bn false t 0 ⟨true,0,[]⟩ (xE p)=U at*;rw[show (xE p).S.length=p.length by simp[xE]] at hT;rw[show (xE p).G.length=0 from rfl] at hG;obtain⟨T,D,F,G0⟩:=U;simp only at hso hT hG |-
 have hTl:∀ q∈T,q.segs.length<=1000000:=λq hq=>by have:=hso.1 q hq;omega
 generalize hR:lD p F T t p.length 0 G0=R;refine wW Tryz.func65 ?_
 repeat'(first|refine yA ?_|refine y2 ?_ ?_|refine an hvl ?_|(refine wX ?_;refine kF [] hac rfl rfl (by rfl) rfl rfl aP trivial rfl rfl (wr:=FZ p ⟨T,D,F,G0⟩) (by show [_,_,_,_,_]=_;rw[az,az];rfl) ?_)|exact y5|fail)
 refine my [0,1,2,3,4,5,6,7] 36 [(0,al p),(3,.s (.ptr (some (0,0)))),(13,nI p.length),(14,nI 0)] (uP p D.length T F G0) rfl rfl ⟨ah _,ah _,ah _,ah _,trivial⟩ ⟨rfl,rfl,rfl,bh rfl trivial⟩ (by unfold uP bM;generalize List.flatMap cv _=cg;cases cg<;>rfl) ?_
 refine cy (σ:=Nat×List (Nat×Nat)) (λq=>[(14,nI q.1)]) (λq=>uP p D.length T F q.2)
  (λq=>q.1<=p.length/\q.2.length<=2048+q.1*6145/\lD p F T t (p.length-q.1) q.1 q.2=R) (λq=>p.length-q.1) (0,G0) rfl (λ_=>rfl) ?_ ?_ ?_ ?_
 ·grind
 ·exact aP
 ·exact⟨rfl,rfl,rfl,fF rfl trivial⟩
 ·rintro⟨i,G⟩ ⟨h1,h2,h3⟩
  simp only at h1 h2 h3 |-
  rcases Z0a i p.length with hi|hi
  ·obtain⟨sl,g1,g2⟩:=cM ha hv (Z08 i) (aa:i<0+t.size)
   have hoo:=Al p hp hI i (hn i hi);rw[show p.length-i=(p.length-(i+1))+1 by omega] at h3;simp only[lD] at h3
   cases ho:aN p i with
   |false=>
    rw[ho] at hoo h3;rw[if_neg ac] at h3;have hlen:=mO (F:=F) (sc:=T.getD i z0) (G:=G) hp g1 g2;have hnd:=DU p hp hw hI hn D.length T hT hTl F hso.2 i _ _ sl G g1 g2 aa;generalize ja p F (T.getD i z0) (t.kid 0 i) i G=G2 at*
    have k2:fg 8 (uP p D.length T F G)=true:=(by unfold uP bM;generalize List.flatMap cv _=cg;cases cg<;>rfl)
    repeat'(first|refine yA ?_|refine y2 ?_ ?_|refine y4 λh=>?_|refine wX (ji [0] 0 hoo ?_)|(refine wX ?_;refine jX [0,1,2,3,4,5,6,7] hnd ?_ (wr:=[(0,some (fJ p 3 D.length 8 G2.length)),(1,some (qU T)),(5,some (cF F)),(6,none),(8,bM 8 G2)]) (k2:=k2))|exact y5|fail)
    refine fX (i+1,G2) ⟨hi,ae,h3⟩ ae [0,1,2,3,4,5,8,9] rfl ?_ ?_ ?_
    ·repeat'(first|exact ah _|exact dd _|exact Z0o|refine⟨?_,?_⟩)
    ·exact⟨rfl,rfl,rfl,bh rfl trivial⟩
    ·exact (by unfold uP bM;generalize List.flatMap cv _=cg;cases cg<;>rfl)
   |true=>
    rw[ho] at hoo h3;rw[if_pos rfl] at h3;have hlen:=mO (F:=F) (sc:=T.getD i z0) (G:=G++[(i,4)]) hp g1 g2;have hnd:=DU p hp hw hI hn D.length T hT hTl F hso.2 i _ _ sl (G++[(i,4)]) g1 g2 ae;simp only[Z03,Z0n] at hlen;generalize ja p F (T.getD i z0) (t.kid 0 i) i (G++[(i,4)])=G2 at*;simp only[uP,Z03,Z0n] at hnd
    have k2:fg 8 [(0,some (fJ p 3 D.length 6 (G.length+1))),(1,some (qU T)),(5,some (cF F)),(6,bM 6 (G++[(i,4)]))]=true:=by
     unfold bM;generalize List.flatMap cv _=cg;cases cg<;>rfl
    repeat'(first|refine yA ?_|refine y2 ?_ ?_|refine y4 λh=>?_|refine wX (ji [0] 0 hoo ?_)|(refine wX ?_;refine kF [0,1,2,3,4,5,6,7] (dh p D.length G i 4 aa) rfl (bS rfl rfl rfl) rfl rfl rfl aP pi rfl rfl (wr:=[(0,some (fJ p 3 D.length 8 (G.length+1))),(6,none),(8,bM 8 (G++[(i,4)]))]) (by show [_,_,_]=_;rw[az];rfl) ?_)|(refine wX ?_;refine jX [0,1,2,3,4,5,8,9] hnd ?_ (wr:=[(0,some (fJ p 3 D.length 10 G2.length)),(1,some (qU T)),(5,some (cF F)),(8,none),(10,bM 10 G2)]) (k2:=k2))|exact y5|fail)
    refine fX (i+1,G2) ⟨hi,ae,h3⟩ ae [0,1,2,3,4,5,10,11] rfl ?_ ?_ ?_
    ·repeat'(first|exact ah _|exact dd _|exact Z0o|refine⟨?_,?_⟩)
    ·exact⟨rfl,rfl,rfl,bh rfl trivial⟩
    ·exact (by unfold uP bM;generalize List.flatMap cv _=cg;cases cg<;>rfl)
  ·have he:i=p.length:=aa
   subst he;rw[Z3r] at h3;simp only[lD] at h3;subst h3;have hl:=gb G;unfold oC;rw[hl]
   rcases Z21 G.length with hz|hz
   ·obtain rfl:=Z15 hz
    show Ex _ _ _ _ _ [(0,some (fJ p 3 D.length 6 0)),(1,some (qU T)),(5,some (cF F)),(6,none)] _
    repeat'(first|refine y1 ?_|refine y2 ?_ ?_|refine y4 λh=>?_|refine RegX.atCall (bD [6,7] JB ?_)|refine gH 2 (.s (.frz (λk=>cv ((fO []).getD k (0,0))) 2 0)) (VLe.s SLe.row0) rfl ?_|refine dv (.inl rfl) rfl (ah _) rfl|refine y3 ?_|exact y5|fail)
   ·have hsp:=JA G aa hz
    rw[show uP p D.length T F G=[(0,some (fJ p 3 D.length 6 G.length)),(1,some (qU T)),(5,some (cF F)),(6,some (dgS 6 G))] from by unfold uP;rw[uf hz]]
    repeat'(first|refine y1 ?_|refine y2 ?_ ?_|refine y4 λh=>?_|refine RegX.atCall (bD [6,7] hsp ?_)|refine Ex.fz 2 (λk=>cv ((fO G).getD k (0,0))) 2 rfl rfl rfl rfl (λ_ _=>rfl) (λk j x hk hx=>ue aa hx) rfl rfl ?_|refine dv (.inl rfl) rfl (ah _) rfl|refine y3 ?_|exact y5|fail)
section
variable {j:Nat}
abbrev Dgs:=List (Nat×Nat)
theorem H6 {a:Nat×Nat} {x:S} (h:(cv a)[j]? =some x):bL x=true:=by
 rcases j with _|_|j
 ·cases h;rfl
 ·cases h;rfl
 ·simp[cv] at h
end
theorem bp:∀ (m:Bool) (t:Fo) (i:Nat) (lp r:Bool) (G:Dgs),aT m t i lp r G=G++aT m t i lp r []
 |true,.nil,_,_,_,G=>by simp[aT]
 |false,.nil,_,_,_,G=>by simp[aT]
 |true,.cons x k n,i,lp,r,G=>by
  simp only[aT];rw[bp true n (i+1+k.size) lp r (if x.op=4 then aT false k (i+1) lp true G else G),bp true n (i+1+k.size) lp r (if x.op=4 then aT false k (i+1) lp true [] else [])];split
  ·rw[bp false k (i+1) lp true G];simp only[Z14]
  ·simp
 |false,.cons x k n,i,lp,r,G=>by
  simp only[aT]
  have h2:cx x.op i lp (eA i r G)=G++cx x.op i lp (eA i r []):=by
   grind [cx,eA]
  rw[h2];generalize cx x.op i lp (eA i r [])=E;rw[bp false n (i+1+k.size) lp _ (if x.op=31 then aT true k (i+1) lp true (G++E) else if x.op=32 then aT true k (i+1) true true (G++E) else G++E),bp false n (i+1+k.size) lp _ (if x.op=31 then aT true k (i+1) lp true E else if x.op=32 then aT true k (i+1) true true E else E)];split
  ·rw[bp true k (i+1) lp true (G++E),bp true k (i+1) lp true E];simp only[Z14]
  ·split
   ·rw[bp true k (i+1) true true (G++E),bp true k (i+1) true true E];simp only[Z14]
   ·simp only[Z14]
theorem mg (p:List Nd) (lim:Int):∀ (c j:Nat) (G:Dgs),iY p lim c j G=G++iY p lim c j []
 |0,_,G=>by simp[iY]
 |c+1,j,G=>by
  simp only[iY];rw[mg p lim c (j+1) (if (p.getD j dN).op=7/\lim<=aj p j then G++[(j,9)] else G),mg p lim c (j+1) (if (p.getD j dN).op=7/\lim<=aj p j then []++[(j,9)] else [])]
  grind
theorem Eb (p:List Nd) (bl:Fo) (i:Nat) (G:Dgs):ov p bl i G=G++ov p bl i []:=by
 unfold ov;rw[bp _ _ _ _ _ (iY p _ _ _ G),bp _ _ _ _ _ (iY p _ _ _ []),mg p _ _ _ G,Z14]
theorem dA (p:List Nd) (len w:Int):∀ (t:Fo) (i:Nat) (bit:Int) (G:Dgs),cn p len w t i bit G=G++cn p len w t i bit []
 | .nil,_,_,G=>by simp[cn]
 | .cons x k n,i,bit,G=>by
   simp only[cn];split
   ·simp
   ·split
    ·exact dA p len w n _ _ G
    ·rw[dA p len w n _ _ (if len<((bit+aj p (i+2)-1).tdiv (8*w)+1)*w then G++[(i,7)] else G),dA p len w n _ _ (if len<((bit+aj p (i+2)-1).tdiv (8*w)+1)*w then []++[(i,7)] else [])]
     grind
theorem yN (p:List Nd) (F:List (By×Nat)) (sc:Pth) (bl:Fo) (i:Nat) (G:Dgs):iT p F sc bl i G=G++iT p F sc bl i []:=by
 grind [iT,dA]
theorem BP (p:List Nd) (F:List (By×Nat)) (sc:Pth) (k:Fo) (i:Nat) (G:Dgs):ja p F sc k i G=G++ja p F sc k i []:=by
 grind [ja,yN,Eb]
def pR (p:List Nd) (F:List (By×Nat)) (T:List Pth) (t:Fo) (i:Nat):Dgs:=(if aN p i then [(i,4)] else [])++ja p F (T.getD i z0) (t.kid 0 i) i []
theorem lC (p:List Nd) (F:List (By×Nat)) (T:List Pth) (t:Fo):∀ (c i:Nat) (G:Dgs),lD p F T t c i G=G++(List.range' i c).flatMap (pR p F T t)
 |0,i,G=>by simp[lD]
 |c+1,i,G=>by
  simp only[lD];rw[lC p F T t c (i+1),BP,Z31,Z0g];unfold pR
  grind
def Inn (lo hi:Nat) (E:Dgs):Prop:=E.Nodup/\∀ d∈E,lo<=d.1/\d.1<hi
theorem Inn.nil (lo hi:Nat):Inn lo hi []:=⟨Z5b,λd h=>by cases h⟩
theorem Inn.app {lo mid hi:Nat} {A B:Dgs} (ha:Inn lo mid A) (hb:Inn mid hi B) (h1:lo<=mid) (h2:mid<=hi):Inn lo hi (A++B):=by
 refine⟨Z3p.2 ⟨ha.1,hb.1,λa hA b hB e=>?_⟩,λd hd=>?_⟩
 ·have:=ha.2 a hA
  have:=hb.2 b hB
  grind
 ·rcases Z0w.1 hd with h|h
  ·have:=ha.2 d h;omega
  ·have:=hb.2 d h;omega
theorem Inn.mono {lo hi lo' hi':Nat} {A:Dgs} (ha:Inn lo hi A) (h1:lo'<=lo) (h2:hi<=hi'):Inn lo' hi' A:=⟨ha.1,λd hd=>by have:=ha.2 d hd;omega⟩
theorem Inn.one (i c:Nat):Inn i (i+1) [(i,c)]:=⟨aq,λd hd=>by grind⟩
theorem GT (op:Int) (i:Nat) (lp r:Bool):Inn i (i+1) (cx op i lp (eA i r [])):=by
 unfold cx eA
 split<;>split
 ·exact Inn.one i 8
 ·refine⟨aq,λd hd=>?_⟩
  grind
 all_goals grind [Inn.nil,Inn.one]
theorem ib:∀ (m:Bool) (t:Fo) (i:Nat) (lp r:Bool),Inn i (i+t.size) (aT m t i lp r [])
 |true,.nil,i,_,_=>Inn.nil _ _
 |false,.nil,i,_,_=>Inn.nil _ _
 |true,.cons x k n,i,lp,r=>by
  simp only[aT,Fo.size];rw[bp];refine Inn.app (mid:=i+1+k.size) ?_ ((ib true n (i+1+k.size) lp r).mono (Z02 _) aa) aa aa;split
  ·exact (ib false k (i+1) lp true).mono aa (Z02 _)
  ·exact Inn.nil _ _
 |false,.cons x k n,i,lp,r=>by
  simp only[aT,Fo.size];rw[bp];refine Inn.app (mid:=i+1+k.size) ?_ ((ib false n (i+1+k.size) lp _).mono (Z02 _) aa) aa aa;have h0:=GT x.op i lp r;generalize cx x.op i lp (eA i r [])=E at*;split
  ·rw[bp]
   exact Inn.app h0 (ib true k (i+1) lp true) aa aa
  ·split
   ·rw[bp]
    exact Inn.app h0 (ib true k (i+1) true true) aa aa
   ·exact h0.mono (Z02 _) aa
theorem dr:∀ (m:Bool) (t:Fo) (i:Nat) (lp r:Bool),∀ d∈aT m t i lp r [],d.2=8\/d.2=10
 |true,.nil,i,_,_=>λd h=>by cases h
 |false,.nil,i,_,_=>λd h=>by cases h
 |true,.cons x k n,i,lp,r=>by
  intro d hd;simp only[aT] at hd;rw[bp] at hd
  rcases Z0w.1 hd with h|h
  ·split at h
   ·exact dr false k (i+1) lp true d h
   ·cases h
  ·exact dr true n _ lp r d h
 |false,.cons x k n,i,lp,r=>by
  intro d hd;simp only[aT] at hd;rw[bp] at hd
  have h0:∀ d∈cx x.op i lp (eA i r []),d.2=8\/d.2=10:=by
   grind [cx,eA]
  generalize cx x.op i lp (eA i r [])=E at*
  rcases Z0w.1 hd with h|h
  ·split at h
   ·rw[bp] at h
    rcases Z0w.1 h with h|h
    ·exact h0 d h
    ·exact dr true k _ lp true d h
   ·split at h
    ·rw[bp] at h
     rcases Z0w.1 h with h|h
     ·exact h0 d h
     ·exact dr true k _ true true d h
    ·exact h0 d h
  ·exact dr false n _ lp _ d h
theorem vE {sp ba ln:Int}:tg sp ba ln=true↔1<=ln/\ln<=1048576/\(sp=0\/sp=1\/sp=3/\ba<=256/\ba+ln<=256):=by
 unfold tg;split
 ·simp;omega
 ·split
  ·simp;omega
  ·split
   ·rw[decide_eq_true_eq];omega
   ·simp;omega
theorem CR {sp ba ln bit len wid upd:Int} (hw:wid=1\/wid=2\/wid=4\/wid=8):fM sp ba ln bit len wid upd=true↔tg sp ba ln=true/\ ¬((sp=3/\wid≠1)\/ba.tmod wid≠0)/\ ¬(upd<0\/2<upd\/bit<0\/len<1\/256<len)/\(bit+len-1).tdiv (8*wid)<ln.tdiv wid:=by
 unfold fM;rw[if_neg (c:= ¬_) (λh=>h hw)];cases tg sp ba ln
 ·simp
 ·simp only[Z3x,if_false,true_and]
  split
  ·rename_i h;simp[h]
  ·rename_i h
   split
   ·rename_i h2;simp[h2]
   ·rename_i h2
    rw[decide_eq_true_eq];exact⟨λe=>⟨h,h2,e⟩,λe=>e.2.2⟩
theorem rB (sp ba ln bit len wid upd idx dat:Int) (h0:0<=ba) (h1:ba<=9223372036854775808) (h2:0<=ln) (h3:ln<=1099511627776) (h4:0<=bit) (h5:bit<=1099511627776) (h6:1<=len) (h7:len<=256) (h8:0<=upd) (h9:upd<=2) (hw:wid=1\/wid=2\/wid=4\/wid=8):
 FQ 147 [.agg [.int .i64 sp,.int .u64 ba,.int .u64 ln,.int .i64 bit,.int .i64 len,.int .i64 wid,.int .i64 upd,.int .i64 idx,.int .i64 dat]] 0 [] (bV (fM sp ba ln bit len wid upd)) 0 []:=by
 have hv:=CR (sp:=sp) (ba:=ba) (ln:=ln) (bit:=bit) (len:=len) (upd:=upd) hw;have g1:ln.tdiv wid=ln/wid:=Z5g h2;have g2:(bit+len-1).tdiv (8*wid)=(bit+len-1)/(8*wid):=Z5g aa;refine wW Tryz.func147 ?_;cases hb:tg sp ba ln
 ·have hb: ¬(1<=ln/\ln<=1048576/\(sp=0\/sp=1\/sp=3/\ba<=256/\ba+ln<=256)):=by rw[<-vE,hb];simp
  have e:fM sp ba ln bit len wid upd=false:=by cases e:fM sp ba ln bit len wid upd<;>simp_all
  rw[e];clear hv g1 g2
  repeat'(first|refine y1 ?_|refine y2 ?_ ?_|refine y4 λh=>?_|refine cL (.inl rfl) rfl ?_|refine y3 ?_|exact y5|fail)
 rw[hb] at hv;obtain⟨b1,b2,b3⟩:=vE.1 hb;clear hb
 repeat'(first|refine Ex.cutS 2 134 2 [(1,.s (.ptr (some (0,0)))),(2,bV false),(3,.s (.ptr (some (1,0))))] [(0,some {cells:=[.int .i64 sp,.int .u64 ba,.int .u64 ln,.int .i64 bit,.int .i64 len,.int .i64 wid,.int .i64 upd,.int .i64 idx,.int .i64 dat],ty:=84}),(1,some {cells:=[.int .i64 sp,.int .u64 ba,.int .u64 ln],ty:=82})] rfl (Hold.k ?_) (Hold.k ?_)|refine y1 ?_|refine y2 ?_ ?_|refine y3 ?_|exact y5|fail)
 ·refine⟨?_⟩
  repeat'(first|refine yA ?_|refine y2 ?_ ?_|refine y4 λh=>?_|exact y5|fail)
  all_goals exact fH [0,1] rfl rfl ⟨ah _,ah _,ah _,trivial⟩ ⟨rfl,rfl,trivial⟩ rfl
 refine⟨?_⟩;by_cases c1:(sp=3/\wid≠1)\/ba.tmod wid≠0
 ·have e:fM sp ba ln bit len wid upd=false:=by
   cases e:fM sp ba ln bit len wid upd
   ·rfl
   ·exact absurd c1 (hv.1 e).2.1
  rw[e];clear hv g1 g2 e
  repeat'(first|refine y1 ?_|refine y2 ?_ ?_|refine y4 λh=>?_|refine cL (.inl rfl) rfl ?_|refine y3 ?_|exact y5|fail)
 have c2:sp=3->wid=1:=λh=>Z4o λe=>c1 (.inl ⟨h,e⟩)
 have c3:ba.tmod wid=0:=Z4o λe=>c1 (.inr e)
 have hvo:=hv;clear hv
 have hv:fM sp ba ln bit len wid upd=true↔(bit+len-1)/(8*wid)<ln/wid:=by
  rw[hvo,g1,g2];exact⟨λh=>h.2.2.2,λh=>⟨rfl,c1,aa,h⟩⟩
 clear hvo;generalize fM sp ba ln bit len wid upd=r at hv |-;clear c1
 repeat'(first|refine Ex.cutS 6 134 2 [(1,.s (.ptr (some (0,0)))),(2,bV false),(3,.s (.ptr (some (1,0))))] [(0,some {cells:=[.int .i64 sp,.int .u64 ba,.int .u64 ln,.int .i64 bit,.int .i64 len,.int .i64 wid,.int .i64 upd,.int .i64 idx,.int .i64 dat],ty:=84}),(1,some {cells:=[.int .i64 sp,.int .u64 ba,.int .u64 ln],ty:=82})] rfl (Hold.k ?_) (Hold.k ?_)|refine y1 ?_|refine y2 ?_ ?_|refine y4 λh=>?_|refine y3 ?_|exact y5|fail)
 all_goals refine⟨?_⟩
 all_goals
  repeat'(first|refine y1 ?_|refine y2 ?_ ?_|refine y4 λh=>?_|refine cL (.inl rfl) rfl ?_|refine y3 ?_|exact y5|fail)
 all_goals try exact fH [0,1] rfl rfl ⟨ah _,ah _,ah _,trivial⟩ ⟨rfl,rfl,trivial⟩ rfl
 all_goals try rw[g2]
 all_goals try rw[g2] at*
 all_goals clear g1 g2 c2 c3 b3 h1
 all_goals rcases hw with e|e|e|e<;>subst e<;>first
  |exact aB aa aa
  |exact aU aa aa
  |(cases r
    ·exact absurd (hv.2 aa) aq
    ·rfl)
  |(cases r
    ·rfl
    ·exact absurd (hv.1 rfl) aa)
section
variable {i:Nat}
def jb (op:Int):Bool:=decide (10<=op/\op<=21)
def ed (p:List Nd) (t:Fo) (j:Nat) (a:Inf) (s:St) (i:Nat):St:=
 if jb (p.getD i dN).op then (cN (p.getD i dN) (aw (t.kid j i)) i (bF t j i a).sc s).2 else s
theorem eX {α β:Type} {f g:β->α->β}:∀ {l:List α} {s:β},(∀ i∈l,∀ s,f s i=g s i)->l.foldl f s=l.foldl g s
 |[],_,_=>rfl
 |i::l,s,h=>by
  simp only[Z2s];rw[h i (Z17 ..),eX λj hj=>h j (Z0y _ hj)]
theorem tQ {α β:Type} {f:β->α->β}:∀ {l:List α} {s:β},(∀ i∈l,∀ s,f s i=s)->l.foldl f s=s
 |[],_,_=>rfl
 |i::l,s,h=>by
  simp only[Z2s];rw[h i (Z17 ..),tQ λj hj=>h j (Z0y _ hj)]
section
variable {p:List Nd}
theorem mX {x:Nd} {k n:Fo} {j:Nat} (ha:(Fo.cons x k n).At p j) (a:Inf) (s:St):
 (List.range' j (Fo.cons x k n).size).foldl (ed p (.cons x k n) j a) s=
   (List.range' (j+1+k.size) n.size).foldl (ed p n (j+1+k.size) a) ((List.range' (j+1) k.size).foldl (ed p k (j+1) (bq x (aw k) j a)) (ed p (.cons x k n) j a s j)):=by
 have e:List.range' j (Fo.cons x k n).size=j::(List.range' (j+1) k.size++List.range' (j+1+k.size) n.size):=by
  simp only[Fo.size];rw[show 1+k.size+n.size=(k.size+n.size)+1 by omega,Z31,Z5z]
 rw[e,Z2s,Z4a];rw[eX (f:=ed p (.cons x k n) j a) (g:=ed p k (j+1) (bq x (aw k) j a)) (l:=List.range' (j+1) k.size)]
 ·refine eX λi hi s=>?_
  have:=Z20.1 hi;unfold ed;have h1: ¬i=j:=aa;have h2: ¬i<j+1+k.size:=aa;simp only[Fo.kid,bF,if_neg h1,if_neg h2]
 ·intro i hi s
  have:=Z20.1 hi;unfold ed;have h1: ¬i=j:=aa;have h2:i<j+1+k.size:=aa;simp only[Fo.kid,bF,if_neg h1,if_pos h2]
theorem yI {t:Fo} {j:Nat} (ha:t.At p j) (hq:t.all quiet) (a:Inf) (s:St):(List.range' j t.size).foldl (ed p t j a) s=s:=by
 grind [ed,jb,quiet,tQ,Fo.all_at]
theorem HT {x:Nd} {nm:Pth} {a:Inf} {s:St}:(cN x nm i a.sc s).1=(bq x nm i a).sc:=by
 grind [cN,bq]
theorem iy {op kids c:Int} (h:bH c op=true) (hc:c=68\/c=70) (hb:gw op=false):∀ b∈(av op kids).1,qK (b.toNat:Int)=true:=by
 unfold gw at hb;simp only[decide_eq_false_iff_not] at hb
 have:op=13\/op=14\/op=15\/op=18\/op=19\/op=20\/op=21:=by
  rcases l9 hc h with e|e|e|e|e|e|e|e|e|e|e|e<;>omega
 rcases this with e|e|e|e|e|e|e<;>rw[e]
 ·exact λb hb=>(ac:∀ b∈(av 13 0).1,qK (b.toNat:Int)=true) b hb
 ·exact λb hb=>(ac:∀ b∈(av 14 0).1,qK (b.toNat:Int)=true) b hb
 ·exact λb hb=>(ac:∀ b∈(av 15 0).1,qK (b.toNat:Int)=true) b hb
 ·exact λb hb=>(ac:∀ b∈(av 18 0).1,qK (b.toNat:Int)=true) b hb
 ·exact λb hb=>(ac:∀ b∈(av 19 0).1,qK (b.toNat:Int)=true) b hb
 ·exact λb hb=>(ac:∀ b∈(av 20 0).1,qK (b.toNat:Int)=true) b hb
 ·exact λb hb=>(ac:∀ b∈(av 21 0).1,qK (b.toNat:Int)=true) b hb
theorem fU {c':Int}:∀ (ls:List Int) (t:Fo) (j:Nat) (a:Inf) (s:St),ls.all eI=true->t.At p j->t.V (ls.map (λc=>(false,c))++[(true,c')])->
 (∀ (bl:Fo) (i:Nat) (s:St) (b:Inf),bl.At p i->bl.V (List.replicate bl.cnt (false,c'))->b.sc=a.sc->bl.size<t.size->bn false bl i a.sc s=(List.range' i bl.size).foldl (ed p bl i b) s)->
 bn true t j a.sc s=(List.range' j t.size).foldl (ed p t j a) s
 |[],t,j,a,s,_,ha,hv,ih=>by
  obtain⟨y,bl,n,rfl,h1,h2,h3⟩:=jY hv;have:=iE h1;subst this;rw[mX ha]
  have hst:ed p (.cons y bl .nil) j a s j=s:=by
   grind [At.get,ed,jb]
  rw[hst]
  have hsc:(bq y (aw bl) j a).sc=a.sc:=by
   grind [bq]
  have:=ih bl (j+1) s (bq y (aw bl) j a) ha.2.2.1 h3 hsc (by simp only[Fo.size];omega)
  grind [bn,Fo.size]
 |c::ls,t,j,a,s,hl,ha,hv,ih=>by
  simp only[Z1b,Z07] at hl;obtain⟨y,n,rfl,h1,hop⟩:=eN hl.1 hv;rw[mX ha]
  have hst:ed p (.cons y .nil n) j a s j=s:=by
   grind [At.get,ed,jb]
  rw[hst];have: ¬y.op=4:=aa;simp only[bn,if_neg this,Fo.size,Z0p,Z50,Z5x]
  have hn:n.At p (j+1):=by have:=ha.2.2.2;simpa [Fo.size] using this
  exact fU ls n (j+1) a s hl.2 hn h1 (λbl i s b g1 g2 g3 g4=>ih bl i s b g1 g2 g3 (by simp only[Fo.size];omega))
theorem la:∀ (N:Nat) (t:Fo) (c:Int) (j:Nat) (a:Inf) (s:St),t.size<N->(c=68\/c=70)->t.At p j->t.V (List.replicate t.cnt (false,c))->bn false t j a.sc s=(List.range' j t.size).foldl (ed p t j a) s
 |0,_,_,_,_,_,h,_,_,_=>absurd h (Z1m _)
 |N+1,.nil,_,_,_,_,_,_,_,_=>rfl
 |N+1,.cons x k n,c,j,a,s,hN,hc,ha,hv=>by
  simp only[Fo.size] at hN;have hv':=hv;simp only[Fo.cnt,Z16] at hv';obtain⟨⟨h1,h2,h3⟩,h4,h5⟩:=hv';rw[mX ha];simp only[bn];have hd:=l9 hc h1
  have hst:ed p (.cons x k n) j a s j=(cN x (aw k) j a.sc s).2:=by
   unfold ed jb;rw[At.get ha,if_pos (by simp only[decide_eq_true_eq];omega)];simp only[Fo.kid,bF,if_true]
  rw[hst]
  have hk:(if gw x.op then bn true k (j+1) (cN x (aw k) j a.sc s).1 (cN x (aw k) j a.sc s).2 else (cN x (aw k) j a.sc s).2)=(List.range' (j+1) k.size).foldl (ed p k (j+1) (bq x (aw k) j a)) (cN x (aw k) j a.sc s).2:=by
   cases hb:gw x.op
   ·simp only[Z0l,if_false]
    rw[yI ha.2.2.1]
    refine fj h4 λsl hsl=>?_
    obtain⟨b,hb',rfl⟩:=Z1d.1 hsl;exact iy h1 hc hb b hb'
   ·simp only[if_true]
    rw[HT]
    have ih:∀ (c':Int),(c'=68\/c'=70)->∀ (bl:Fo) (i:Nat) (s:St) (b:Inf),bl.At p i->bl.V (List.replicate bl.cnt (false,c'))->b.sc=(bq x (aw k) j a).sc->bl.size<k.size->bn false bl i (bq x (aw k) j a).sc s=(List.range' i bl.size).foldl (ed p bl i b) s:=λc' hc' bl i s b g1 g2 g3 g4=>by
     rw[<-g3];exact la N bl c' i b s aa hc' g1 g2
    unfold gw at hb;simp only[decide_eq_true_eq] at hb
    rcases hb with e|e|e|e|e<;>rw[e] at h4
    ·exact fU (c':=68) [110] k (j+1) _ _ rfl ha.2.2.1 h4 (ih 68 (.inl rfl))
    ·exact fU (c':=68) [115] k (j+1) _ _ rfl ha.2.2.1 h4 (ih 68 (.inl rfl))
    ·exact fU (c':=68) [115,105,105] k (j+1) _ _ rfl ha.2.2.1 h4 (ih 68 (.inl rfl))
    ·exact fU (c':=70) [110,105,105] k (j+1) _ _ rfl ha.2.2.1 h4 (ih 70 (.inr rfl))
    ·exact fU (c':=70) [110,110,105,105] k (j+1) _ _ rfl ha.2.2.1 h4 (ih 70 (.inr rfl))
  rw[hk];exact la N n c (j+1+k.size) a _ aa hc ha.2.2.2 h5
end
section
variable {p:List Nd} {t:Fo}
def nK (p:List Nd) (t:Fo) (s:St) (i:Nat):St:=if jb (p.getD i dN).op then (cN (p.getD i dN) (aw (t.kid 0 i)) i (aF t i).sc s).2 else s
theorem FY (ha:t.At p 0) (hv:t.V (List.replicate t.cnt (false,68))):anS p t=(List.range t.size).foldl (nK p t) (xE p):=by
 have:=la (p:=p) (t.size+1) t 68 0 ini (xE p) (Z1t _) (.inl rfl) ha hv;rw[Z4g];exact this
def Gw (p:List Nd) (t:Fo) (i:Nat):Bool:=(ax (aF t i).sc (aw (t.kid 0 i))).2
def bY (p:List Nd) (t:Fo) (i:Nat):By:=(kV p t i).path
theorem EM {q:Pth} (h:bR q=true):aM q≠[]:=by
 grind [bR,aM]
theorem pJ (ha:t.At p 0) (hi:i<t.size):bY p t i=if ca (p.getD i dN).op=true/\Gw p t i=true then aM (ax (aF t i).sc (aw (t.kid 0 i))).1 else []:=by
 grind [bY,kV,ot,Gw,w7]
theorem pI (ha:t.At p 0) (hi:i<t.size):bY p t i≠[]↔ca (p.getD i dN).op=true/\Gw p t i=true:=by
 rw[pJ ha hi];split
 ·rename_i h
  exact⟨λ_=>h,λ_=>EM (zt h.2)⟩
 all_goals grind
def Mq (p:List Nd) (t:Fo) (i:Nat):List Dc:=if bY p t i=[] then [] else [⟨bY p t i,(p.getD i dN).op,i⟩]
def kE (p:List Nd) (t:Fo) (i:Nat):Bool:=(ca (p.getD i dN).op||decide ((p.getD i dN).op=10))&& !Gw p t i
theorem sQ (ha:t.At p 0) (hi:i<t.size) (s:St):(nK p t s i).D=s.D++Mq p t i/\(nK p t s i).F=(if bY p t i=[] then s.F else rm s.F (bY p t i) i)/\
 (nK p t s i).G=(if kE p t i then s.G++[(i,2)] else if bY p t i=[] then s.G else nk s.F s.G (bY p t i) i)/\(nK p t s i).S=if jb (p.getD i dN).op then s.S.set i (aF t i).sc else s.S:=by
 have hne:=pI ha hi;have heq:=pJ ha hi;unfold Mq kE;generalize hP:bY p t i=P at*;unfold nK Gw at*;unfold jb ca at*;generalize (p.getD i dN)=x at*;generalize aw (t.kid 0 i)=nm at*;generalize (aF t i).sc=sc at*;by_cases hd:10<=x.op/\x.op<=21
 ·rw[decide_eq_true hd]
  simp only[if_true];unfold cN
  grind [St.sc,St.rep,St.dec]
 all_goals grind
def sR (p:List Nd) (t:Fo) (m:Nat):St:=(List.range m).foldl (nK p t) (xE p)
theorem mF (m:Nat):sR p t (m+1)=nK p t (sR p t m) m:=by
 unfold sR;rw[Z3a,Z4a];rfl
def d_ (p:List Nd) (t:Fo) (path:By):Nat->Option Nat
 |0=>none
 |m+1=>match d_ p t path m with|some i=>some i|none=>if bY p t m=path then some m else none
theorem Em (F:List (By×Nat)) (k path:By) (i:Nat):q_ (F++[(k,i)]) path=match q_ F path with|some v=>some v|none=>if k=path then some i else none:=by
 induction F with
 |nil=>simp only[Z1e,q_]
 |cons a F ih=>
  grind [q_]
theorem xO (ha:t.At p 0) {path:By} (hp:path≠[]):∀ {m:Nat},m<=t.size->q_ (sR p t m).F path=d_ p t path m
 |0,_=>rfl
 |m+1,h=>by
  have ih:=xO ha hp (m:=m) aa;rw[mF,(sQ ha aa _).2.1]
  grind [d_,Em,rm]
theorem gM {path:By}:∀ {m i:Nat},d_ p t path m=some i->i<m/\bY p t i=path/\∀ k,k<i->bY p t k≠path
 |0,_,h=>by cases h
 |m+1,i,h=>by
  simp only[d_] at h;split at h
  ·rename_i v hv
   cases h;have:=gM hv
   grind
  ·rename_i hn
   split at h
   ·rename_i he
    cases h;refine⟨Z1t _,he,λk hk hc=>?_⟩
    have:∀ m,d_ p t path m=none->∀ k,k<m->bY p t k≠path:=by
     intro m
     induction m with
     |zero=>grind
     |succ m ih=>
      grind [d_]
    grind
   ·cases h
theorem jQ {path:By}:∀ {m:Nat},d_ p t path m=none->∀ k,k<m->bY p t k≠path
 |0,_,k,hk=>by omega
 |m+1,h,k,hk=>by
  simp only[d_] at h;split at h
  ·cases h
  ·rename_i h0
   split at h
   ·cases h
   ·rename_i h1
    rcases Z0a k m with q|q
    ·exact jQ h0 k q
    all_goals grind
def qp (p:List Nd) (t:Fo) (i:Nat):Bool:=decide (bY p t i≠[])&&(d_ p t (bY p t i) i).isSome
def Ch (p:List Nd) (t:Fo) (i:Nat):List (Nat×Nat):=if kE p t i then [(i,2)] else if qp p t i then [(i,3)] else []
theorem FT (ha:t.At p 0) (hi:i<t.size) (h:kE p t i=true):bY p t i=[]:=by
 grind [pJ,kE]
theorem C7 (ha:t.At p 0):∀ {m:Nat},m<=t.size->(sR p t m).G=(List.range m).flatMap (Ch p t)
 |0,_=>rfl
 |m+1,h=>by
  have ih:=C7 ha (m:=m) aa;rw[mF,(sQ ha aa _).2.2.1,Z3a,Z0r,<-ih];simp only[Z0g,List.flatMap_nil,Z0u]
  grind [xO,Ch,qp,nk]
theorem C5 (ha:t.At p 0):∀ {m:Nat},m<=t.size->(sR p t m).S.length=p.length/\∀ i,i<m->i<p.length->jb (p.getD i dN).op=true->(sR p t m).S.getD i z0=(aF t i).sc
 |0,_=>⟨by simp[sR,xE],λi hi=>by omega⟩
 |m+1,h=>by
  obtain⟨ih1,ih2⟩:=C5 ha (m:=m) aa;rw[mF,(sQ ha aa _).2.2.2]
  grind
end
end
section
variable {i:Nat}
section
variable {p:List Nd} {t:Fo} {cs:List (Bool×Int)}
theorem tF (ha:t.At p 0) (hv:t.V cs) (hi:i<t.size) (hop:(p.getD i dN).op=14):
 (t.kid 0 i).size=5+(am (t.kid 0 i)).size/\∀ j,i<j->j<i+1+(t.kid 0 i).size->(aF t j).me=(i:Int):=by
 obtain⟨h0,h1,h2,h3,_⟩:=bT ha hv hi ae;rw[hop,gt] at h2;have hk:=fa (c':=83) [115,105,105,105] (t.kid 0 i) ac h2;refine⟨ae,λj hj1 hj2=>?_⟩;have hq:(t.kid 0 i).all quiet:=fj h2 ac;have:=(ct ha (Z08 i) aa hj1 hj2 ini).2
 grind [yY,bq]
theorem GI (ha:t.At p 0) (hv:t.V cs) (hi:i<t.size) (hop:(p.getD i dN).op=16):
 (t.kid 0 i).size=4+(am (t.kid 0 i)).size/\t.kid 0 (i+4)=am (t.kid 0 i)/\(aF t (i+4)).pa=(i:Int)/\∀ e∈(am (t.kid 0 i)).starts (i+5),(aF t e).pa=((i+4:Nat):Int):=by
 obtain⟨h0,h1,h2,h3,_⟩:=bT ha hv hi ae;rw[hop,v_] at h2;have hk:=fa (c':=70) [110,105,105] (t.kid 0 i) ac h2;obtain⟨k1,k2⟩:=hk.2 (i+1);have e4:i+1+[110,105,105].length=i+4:=aq;rw[show (i+1+([110,105,105]:List Int).length)=i+4 by simp] at k1 k2;have hs:(t.kid 0 i).size=4+(am (t.kid 0 i)).size:=ae;have kk:=ct ha (Z08 i) aa (show i<i+4 by omega) aa ini
 have c4:aF t (i+4)=bq (p.getD i dN) (aw (t.kid 0 i)) i (aF t i):=by
  grind [fV]
 have t4:t.kid 0 (i+4)=am (t.kid 0 i):=ae;have hle:=bv (t:=t) (Z08 i) aa;refine⟨hs,t4,by rw[c4];rfl,λe he=>?_⟩;have hr:=bC he;have ke:=ct ha (Z08 (i+4)) aa (show i+4<e by omega) ae ini;show (bF t 0 e ini).pa=_;rw[ke.2,t4,fV he];rfl
end
def mh (p:List Nd) (t:Fo):Dgs:=lD p (anS p t).F (anS p t).S t p.length 0 (anS p t).G
theorem Bv (G:Dgs):(fO G).Perm G:=Z57 G _
end
