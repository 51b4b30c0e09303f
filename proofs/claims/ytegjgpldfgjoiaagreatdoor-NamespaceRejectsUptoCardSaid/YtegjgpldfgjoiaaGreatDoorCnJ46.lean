import Derived.Test.YtegjgpldfgjoiaaGreatDoorCnJ43
import Derived.ProofKit
import Derived.OpenShut
import Derived.ShutString
import Derived.ChangeOld
import Derived.Lib.SmallJoins
import Derived.Handed
import Derived.Lay
import Derived.LaidOnce
import Derived.Stop.Joined
import Derived.Deep.Slices
import Derived.Test.YtegjgpldfgjoiaaGreatDoorTie
set_option linter.all false
set_option maxHeartbeats 40000000
set_option maxRecDepth 100000
namespace Go.Proofs.YtegjgpldfgjoiaaGreatDoor
section
open Go Ab Go.RowKit Go.Maps Go.Sort Go.Shelf
theorem zY {l ss:List Int} (h:ss.Perm l) (hl:l.Pairwise (·<=·)):ss.mergeSort (λx y=>decide (x<=y))=l:=by
 have tr:∀ a b c:Int,decide (a<=b)=true->decide (b<=c)=true->decide (a<=c)=true:=λa b c h1 h2=>by grind
 have to:∀ a b:Int,(decide (a<=b)||decide (b<=a))=true:=λa b=>by grind
 refine List.Perm.eq_of_pairwise (le:=λa b=>decide (a<=b)=true) (λa b _ _ h1 h2=>?_) (List.pairwise_mergeSort tr to ss) (hl.imp λh=>by grind) ((Z57 ss _).trans h)
 grind
def dg (s:Int):List Ent->List (Int×Int)
 |[]=>[]
 |x::t=>(s,x.par)::dg (s+1) t
theorem ig:∀ (E:List Ent) (s:Int),(dg s E).length=E.length
 |[],_=>rfl
 |x::t,s=>by simp[dg,ig t]
theorem vt:∀ (E:List Ent) (s:Int) (r:Int×Int),r∈dg s E->s<=r.1/\r.1<s+E.length
 |[],_,r,h=>by cases h
 |x::t,s,r,h=>by
  rcases Z0h.1 h with rfl|h
  ·grind
  ·have:=vt t (s+1) r h
   grind
theorem eF:∀ (E:List Ent) (s:Int),((dg s E).map (·.1)).Pairwise (·<·)
 |[],_=>Z5i
 |x::t,s=>by
  rw[dg,Z13];refine Z2v.2 ⟨λz hz=>?_,eF t (s+1)⟩;obtain⟨r,hr,rfl⟩:=Z1d.1 hz;have:=vt t (s+1) r hr;omega
abbrev Rel:=Value->Option (DataW Unit×List MemPlace)
def MM (R:Rel) (r:Int×Int) (m:MapEntry):Prop:=m.key=.int .i64 r.1/\(-9223372036854775808<=r.1/\r.1<=9223372036854775807)/\R m.val=some (.lit (.int .i64 r.2),[])
theorem H3 {φ:Ph} {x:Ent} {v:Value} (h:VO φ true (gX x) v):iv (H:=Unit) v=some (.lit (.int .i64 x.par),[]):=by
 obtain⟨ys,rfl,ha⟩:=h
 match ys,ha with
 |[y0,y1,y2,y3,y4,y5,y6,y7,y8,y9,y10,y11,y12,y13],⟨h0,h1,h2,h3,h4,h5,h6,h7,h8,h9,h10,h11,h12,h13,_⟩=>
  simp only[Sr] at h0 h1 h2 h3 h4 h5 h6 h7 h8 h9 h10 h11 h12 h13;subst h0;subst h1;subst h2;subst h3;subst h4;subst h5;subst h6;subst h7;subst h8;subst h9;subst h10;subst h11;subst h12;subst h13;simp[iv,Lq,wR]
theorem vr {φ:Ph}:∀ (E:List Ent) (b:Nat) (s:Int) (M:List MapEntry),EntsR φ rf true gX (mt b s E) M->0<=s->s+E.length<=1000000->All2 (MM iv) (dg s E) M/\M.map (·.born)=List.range' b E.length
 |[],b,s,[],_,_,_=>⟨trivial,rfl⟩
 |[],b,s,_::_,h,_,_=>h.elim
 |x::t,b,s,[],h,_,_=>h.elim
 |x::t,b,s,m::M,⟨⟨h1,h2,h3⟩,h4⟩,h0,hl=>by
  simp only[Z04] at hl;obtain⟨i1,i2⟩:=vr t (b+1) (s+1) M h4 aa aa;refine⟨⟨⟨h1,ae,H3 h3⟩,i1⟩,?_⟩;rw[Z13,i2,h2];rfl
theorem Kl {z:Int} (h1: -9223372036854775808<=z) (h2:z<=9223372036854775807):keyOf Tryz.prog 3 (.int .i64 z)=some (.int .i64 z):=by
 have hw:(Lit.int .i64 z).wf=true:=by
  grind [Lit.wf,IntKind.min,IntKind.bits,IntKind.signed,IntKind.max]
 simp[keyOf,Tryz.underlying3,mapKey,hw]
def kU (r:Int×Int):Lit×DataW Unit:=(.int .i64 r.1,.lit (.int .i64 r.2))
theorem Ae {R:Rel}:∀ {rs:List (Int×Int)} {ms:List MapEntry},All2 (MM R) rs ms->ms.map (WideElems.rg Tryz.prog 3 R)=rs.map kU/\(ms.map (·.key)=rs.map λr=>Value.int .i64 r.1)/\∀ x∈ms,∃ y,WideElems.rd Tryz.prog 3 R x=some y
 |[],[],_=>⟨rfl,rfl,λx hx=>by cases hx⟩
 |r::rs,m::ms,h=>by
  obtain⟨i1,i2,i3⟩:=Ae h.2;obtain⟨hk,⟨k1,k2⟩,hv⟩:=h.1
  grind [WideElems.rd,Kl,kU,WideElems.rg]
 |[],_::_,h=>h.elim
 |_::_,[],h=>h.elim
def jc (rs:List (Int×Int)):DataW Unit:=.map ((rs.map kU).foldr DataW.insert [])
theorem qt (rs:List (Int×Int)):Maps.size (jc rs)=rs.length:=by
 show ((rs.map kU).foldr DataW.insert []).length=_;rw[(Z3h _).length_eq];simp
theorem sW (x y:Int):(Lit.int .i64 x).sameKey (.int .i64 y)=decide (x=y):=by simp[Lit.sameKey]
theorem nr (rs:List (Int×Int)) (x:Int):Maps.has (jc rs) (.int .i64 x)=true↔x∈rs.map (·.1):=by
 show (((rs.map kU).foldr DataW.insert []).any λp=>p.1.sameKey (.int .i64 x))=true↔_;rw[Z42];constructor
 ·rintro⟨p,hp,hs⟩
  obtain⟨r,hr,rfl⟩:=Z1d.1 ((Z3h _).mem_iff.1 hp)
  grind [kU,sW]
 ·intro hx
  obtain⟨r,hr,rfl⟩:=Z1d.1 hx;exact⟨kU r,(Z3h _).mem_iff.2 (Z1d.2 ⟨r,hr,rfl⟩),by rw[kU,sW];simp⟩
theorem w5 {rs:List (Int×Int)} (hn:(rs.map (·.1)).Nodup) {r:Int×Int} (hr:r∈rs) (zd:DataW Unit):(jc rs).atKey (.int .i64 r.1) zd=.lit (.int .i64 r.2):=by
 unfold jc DataW.atKey;have hin:kU r∈(rs.map kU).foldr DataW.insert []:=(Z3h _).mem_iff.2 (Z1d.2 ⟨r,hr,rfl⟩)
 cases hq:((rs.map kU).foldr DataW.insert []).find? (λp=>p.1.sameKey (.int .i64 r.1)) with
 |none=>
  have:=List.find?_eq_none.1 hq _ hin
  grind [kU,sW]
 |some p=>
  have h1:=List.find?_some hq;have h2:=List.mem_of_find?_eq_some hq;obtain⟨r',hr',rfl⟩:=Z1d.1 ((Z3h _).mem_iff.1 h2);simp only[kU,sW,decide_eq_true_eq] at h1
  have:r'=r:=by
   have hp:rs.Pairwise (λa b=>a.1≠b.1):=Z2p.1 hn;clear hq h2 hin
   induction rs with
   |nil=>cases hr
   |cons q t ih=>
    grind
  subst this;simp only[hq,kU]
theorem BT {rs:List (Int×Int)} (h:(rs.map (·.1)).Nodup) (p:Int×Int->Bool):((rs.filter p).map (·.1)).Nodup:=
 Z2p.2 ((Z2p.1 h).filter _)
theorem JW {φ:Ph} {w:World} {b:Nat} {E:List Ent} {M:List MapEntry} {ck:Nat} (hE:E.length<=1024) (hm:w.heap[b]? =some (.map M.toArray ck)) (hM:EntsR φ rf true gX (mt 0 0 E) M) (hck:ck=E.length):w.ownsMap Tryz.prog 3 iv b E.length (jc (dg 0 E)):=by
 obtain⟨r1,r2⟩:=vr E 0 0 M hM (Z2l _) aa;obtain⟨g1,g2,g3⟩:=Ae r1
 have hl:M.length=E.length:=by grind [ig,r1.len]
 refine⟨M.toArray,ck,hm,⟨?_,⟨?_,?_,?_⟩,ae⟩,ae,by simp only[jc,<-g1]⟩
 ·grind [maxLen]
 ·intro x hx
  have:x.born∈M.map (·.born):=Z1d.2 ⟨x,ae,rfl⟩
  grind
 ·grind
 ·show (M.toArray.toList.map (·.key)).Nodup
  rw[show M.toArray.toList=M by simp,g2];refine Z2p.2 ((Z2p.1 (eF E 0)).imp λh e=>?_)
  grind
theorem AX (φ:Ph):∀ K:List Int,All2 (Sr φ) (K.map λz=>S.int .i64 z) (K.map encZ)
 |[]=>trivial
 |z::t=>⟨rfl,AX φ t⟩
theorem GK {n g cap i:Nat} (hi:n+2<=i):(λi=>if i=n then some (g,0) else if i=n+1 then some (cap,0) else (none:Option (Nat×Nat))) i=none:=ae
theorem SC.rowI {P:Program} {f:FuncId} {args:List V} {n:Nat} {L:Hp} (K:List Int) (hL:∀ i,n<=i->lk L i=none)
 (h:∀ (φ:Ph) (xs:List Value) (w:World),All2 (Vr φ) args xs->Ab.Good φ L w->Calls P f xs.toArray w λe w'=>∃ v,e=.returned v/\w'.ownsRow w.heap.size 3 1 v K.length (K.map encZ)/\(v=.slice none 0 0↔K=[])/\RowKit.Below w.heap.size w w'):
 SC P f args n L (.s (.row n (n+1) K.length)) (n+2) (put L n (h_ n K)):=by
 by_cases hK:K=[]
 ·subst hK
  intro φ xs w h1 h2 h3;refine Z4d (h φ xs w h1 h2) ?_;rintro e w' ⟨v,rfl,_,hn,hb⟩;have hv:=hn.2 rfl
  have old:∀ i bl,lk (put L n (h_ n [])) i=some bl->lk L i=some bl:=λi bl hi=>by
   rw[aC] at hi;split at hi
   ·cases hi
   ·exact hi
  have g2:Ab.Good φ (put L n (h_ n [])) w:=h2.sub old;refine⟨φ,v,rfl,.inl ⟨rfl,hv⟩,⟨λi bl hi=>?_,g2.inj,λb l hb'=>⟨?_,(g2.fz b l hb').2⟩,h2.gz⟩,λi hi=>h3 i aa,⟨hb.os,hb.tape,hb.output,hb.size,λb hb' _=>hb.block b hb',λj bl b hj hp hlt=>⟨j,bl,b,old j bl hj,hp,rfl,id,.inl rfl⟩,λ_ _ h=>h,λ_ _ h=> .inl h⟩,aa,λ_ _=>rfl⟩
  ·obtain⟨b,hb1,hat⟩:=h2.hr i bl (old i bl hi)
   exact⟨b,hb1,hat.mono (Ph.le_refl _) (hb.block _ hat.lt)⟩
  ·rw[hb.block b (h2.fzlt hb')];exact (h2.fz b l hb').1
 ·have hun:h_ n K=some {cells:=K.map λz=>S.int .i64 z,ty:=3,more:=true,sym:=true,flat:=true,gh:=some (n+1,1)}:=jB (by intro e;exact hK (List.map_eq_nil_iff.1 e))
  rw[hun]
  refine SC.fresh _ hL aa λφ xs w h1 h2=>Z4d (h φ xs w h1 h2) ?_
  rintro e w' ⟨v,rfl,hrow,hn,hb⟩
  rcases hrow.2 with ⟨hnil,_⟩|⟨g,cap,cur,hv,hbase,hheap,r1,r2,r3,r4⟩
  ·grind
  ·refine⟨g,λi=>if i=n then some (g,0) else if i=n+1 then some (cap,0) else none,v,rfl,hb,hbase,if_pos rfl,λi hi=>GK hi,λφ' hle hc=>?_⟩
   have hφn:φ' n=some (g,0):=ae;have hφ1:φ' (n+1)=some (cap,0):=ae
   have hcur:cur.toList=K.map encZ++cur.toList.drop K.length:=by
    have:=Z2m K.length cur.toList
    grind
   refine⟨.inr ⟨Z1s.2 hK,(g,0),cap,hφn,hφ1,hv,r1⟩,[],K.map encZ,cur.toList.drop K.length,(0,0),?_,rfl,AX _ K,λh=>(by cases h),λ_ o _=>aq,λg' z' e=>?_,λg' e=>(by cases e)⟩
   ·show w'.heap[g]? =some (.cells ([]++(K.map encZ++cur.toList.drop K.length)).toArray 3 (0,0))
    rw[Z1e,<-hcur];simpa using hheap
   all_goals grind
theorem IN {φ:Ph} {w:World} {E:List Ent} {T:List Tb} (hE:E.length<=1024) (hg:Ab.Good φ (oE E T) w) {b:Nat×Nat} (hb:φ 0=some b):
 ∃ bm,w.cell? ⟨b.1,0+b.2,none⟩=some (.map (some bm))/\b.1<w.heap.size/\w.ownsMap Tryz.prog 3 iv bm E.length (jc (dg 0 E)):=by
 obtain⟨b',hb',hat⟩:=hg.hr 0 (ge 1 2 3 (E.length:Nat) (1+(T.length:Int))) rfl;rw[hb] at hb';cases hb';have hlt:=hat.lt;obtain⟨pre,xs,rest,fr,h1,hp,h2,_⟩:=hat;simp only[di] at h1;obtain⟨y,hy,hyr⟩:=h2.get (i:=0) rfl;have hyr:=Sr.mono (Bl.ph_le_self _ φ) hyr;obtain⟨q,hq,hq2,rfl⟩:=hyr;obtain⟨q',hq',hatm⟩:=hg.hr 1 (oB E) rfl;rw[hq] at hq';cases hq';obtain⟨M,hm,hM⟩:=rM (r:=false) fA hatm hq2;refine⟨q.1,?_,hlt,JW hE hm hM rfl⟩;simp only[World.cell?,h1]
 grind
def gW (s:Int):Nat->List Int
 |0=>[]
 |n+1=>s::gW (s+1) n
theorem qc:∀ (n:Nat) (s:Int),(gW s n).length=n
 |0,_=>rfl
 |n+1,s=>by simp[gW,qc n]
theorem kT:∀ (E:List Ent) (s:Int),(dg s E).map (·.1)=gW s E.length
 |[],_=>rfl
 |x::t,s=>by rw[dg,Z13,kT t];rfl
theorem zX {E:List Ent} {T:List Tb} (i:Nat) (hi:4<=i):lk (oE E T) i=none:=by
 unfold oE;rw[aY,if_neg aa,aY,if_neg aa,aY,if_neg aa,aY,if_neg aa];rfl
theorem BN (E:List Ent) (T:List Tb) (hE:E.length<=1024):FQ 26 [.s (.ptr (some (0,0)))] 4 (oE E T) (.s (.row 4 5 E.length)) 6 (put (oE E T) 4 (h_ 4 (gW 0 E.length))):=by
 refine⟨aK,?_⟩;have hk:=kT E 0
 have:=SC.rowI (P:=Tryz.prog) (f:=26) (args:=[.s (.ptr (some (0,0)))]) (n:=4) (L:=oE E T) (gW 0 E.length) zX λφ xs w ha hg=>?_
 ·rw[qc] at this;exact this
 match xs,ha with
 |[x],⟨h1,_⟩=>
  obtain⟨b,hb,hx⟩:=h1;subst hx;obtain⟨bm,g1,g2,g3⟩:=IN hE hg hb
  have hsz:Maps.size (jc (dg 0 E))=E.length:=by rw[qt,ig]
  refine Z4d (ym b.1 (0+b.2) bm E.length (jc (dg 0 E)) iv w g1 g3 (by rw[hsz];unfold maxLen;omega) ae) ?_;rintro e w' ⟨v,ss,rfl,hC,hrow,hn,hbw⟩
  have hperm:ss.Perm (gW 0 E.length):=by
   refine hC.trans ?_;simp only[jc,intKeys];refine ((Z3h ((dg 0 E).map kU)).map _).trans ?_;rw[List.map_map,<-hk];exact List.Perm.refl _
  have hs:=zY hperm (by rw[<-hk];exact (eF E 0).imp λh=>by omega)
  have hlen:(gW 0 E.length).length=ss.length:=by rw[<-hs];simp
  refine⟨v,rfl,ae,?_,hbw⟩;rw[hn,<-hs];constructor
  ·rintro rfl;simp
  ·intro e;exact Z15 ae
def nV (E:List Ent) (id:Int):List Int:=((dg 0 E).filter λr=>decide (r.2=id)).map (·.1)
theorem Ki (E:List Ent) (T:List Tb) (hE:E.length<=1024) (id:Nat) (hid:id<E.length):FQ 29 [.s (.ptr (some (0,0))),nI id] 4 (oE E T) (.s (.row 4 5 (nV E id).length)) 6 (put (oE E T) 4 (h_ 4 (nV E id))):=by
 refine⟨aK,?_⟩
 have hnd:((dg 0 E).map (·.1)).Nodup:=(eF E 0).imp λh e=>by omega
 refine SC.rowI (nV E id) zX λφ xs w ha hg=>?_
 match xs,ha with
 |[x,y],⟨h1,h2,_⟩=>
  obtain⟨b,hb,hx⟩:=h1;have hy:y=.int .i64 (id:Int):=h2;subst hx;subst hy;obtain⟨bm,g1,g2,g3⟩:=IN hE hg hb
  have hsz:Maps.size (jc (dg 0 E))=E.length:=by rw[qt,ig]
  have hmem:((id:Nat):Int)∈(dg 0 E).map (·.1):=by
   rw[kT]
   have key:∀ (n:Nat) (s:Int) (k:Nat),k<n->s+(k:Int)∈gW s n:=by
    intro n
    induction n with
    |zero=>grind
    |succ n ih=>
     intro s k hk
     cases k with
     |zero=>simp[gW]
     |succ k=>
      grind [gW]
   grind
  have hhas:=(nr (dg 0 E) (id:Int)).2 hmem
  have hwf:(Lit.int .i64 (id:Int)).wf=true:=by
   simp only[Lit.wf,Z07,decide_eq_true_eq];refine⟨?_,?_⟩
   ·have:IntKind.i64.min= -9223372036854775808:=rfl
    omega
   ·have:IntKind.i64.max=9223372036854775807:=rfl
    omega
  refine Z4d (HE b.1 (0+b.2) bm E.length (id:Int) (jc (dg 0 E)) w g1 g2 g3 hhas hwf (by rw[hsz];unfold maxLen;omega) ae) ?_;rintro e w' ⟨v,ss,rfl,hC,hrow,hn,hbw⟩
  have hperm:ss.Perm (nV E id):=by
   refine (List.perm_ext_iff_of_nodup hC.1 (BT hnd _)).2 λx=>?_
   rw[hC.2 x];constructor
   ·rintro⟨h1,_,h3⟩
    obtain⟨r,hr,rfl⟩:=Z1d.1 ((nr (dg 0 E) x).1 h1);have:=(w5 hnd hr .nil).symm.trans (h3 .nil)
    grind
   ·intro hx
    obtain⟨r,hr,rfl⟩:=Z1d.1 hx;obtain⟨hr1,hr2⟩:=Z2d.1 hr;have hr2:=of_decide_eq_true hr2;exact⟨(nr (dg 0 E) _).2 (Z1d.2 ⟨r,hr1,rfl⟩),rfl,λzd=>by rw[w5 hnd hr1 zd,hr2]⟩
  have hs:=zY hperm (Z2p.2 ((Z2p.1 (eF E 0)).filter _|>.imp λh=>by omega))
  have hlen:(nV E id).length=ss.length:=by rw[<-hs];simp
  refine⟨v,rfl,ae,?_,hbw⟩;rw[hn,<-hs];constructor
  ·rintro rfl;simp
  ·intro e;exact Z15 ae
end
section
open Go Ab
end
section
open Go Ab
open Go.ChangeShapes Go.WideShapes Go.ChangeAt Go.RowKit
section
variable {H:Type} {w:World} {p:List MemPlace} {v:Value}
theorem own:ownKnob Tryz.prog.godebug=none:=aK
theorem lU:laidOutB Tryz.prog=true:=aK
theorem SC.law {P:Program} {f:FuncId} {args:List V} {n:Nat} {L:Hp} {n':Nat} {L':Hp} (h:SC P f args n L (.s (.bool true)) n' L') (hro:∀ i bl,lk L i=some bl->bl.ro=true) {φ:Ph} {xs:List Value}
 (h1:All2 (Vr φ) args xs) (h2:Ab.Good φ L w) (h3:∀ i,n<=i->φ i=none):Calls P f xs.toArray w λe w'=>e=.returned (.bool true)/\Below w.heap.size w w':=by
 refine Z4d (h φ xs w h1 h2 h3) ?_;rintro e w' ⟨φ',x,rfl,hv,_,_,st,_⟩;have hx:x=.bool true:=hv;refine⟨by rw[hx],st.os,st.tape,st.output,st.size,λk hk=>st.keep k hk ?_⟩;rintro⟨i,bl,c,hl,_,_,hr⟩
 grind
theorem zR (s:ByteArray):Value.string s=.string ⟨s.data.toList.toArray⟩:=ae
def Br {H:Type}:List (DataW H)->List S
 |[]=>[]
 | .agg [.lit (.string a),.lit (.string b)]::t=> .str a::.str b::Br t
 |_::t=>Br t
theorem sk:Tryz.prog.cellsOf 293=2:=aK
theorem zb:Tryz.prog.cellsOf 9=1:=aK
theorem BL {enc:TypeId×Value->H} {base:Nat} {spare:Nat->Bool} {held:Bool} {fuel:Nat} {cs:List Value} {x:DataW H×List MemPlace} (h:DataW.trod enc Tryz.prog w base spare held fuel 293 cs=some x):
 ∃ a b:List UInt8,cs=[.string ⟨a.toArray⟩,.string ⟨b.toArray⟩]/\x.1=.agg [.lit (.string a),.lit (.string b)]:=by
 obtain⟨xs,m,rfl,rfl,hlen,hn,hf⟩:=DataW.trod_struct Tryz.underlying293 h;rw[sk] at hlen
 match cs,hlen with
 |[c0,c1],_=>
  have f0:=hf 0 _ rfl;have f1:=hf 1 _ rfl;change DataW.trod enc Tryz.prog w base spare held m 9 (([c0,c1].drop 0).take (Tryz.prog.cellsOf 9))=_ at f0;change DataW.trod enc Tryz.prog w base spare held m 9 (([c0,c1].drop 1).take (Tryz.prog.cellsOf 9))=_ at f1;rw[zb] at f0 f1;have hn:xs.length=2:=hn
  match xs,hn with
  |[x0,x1],_=>
   obtain⟨s0,e0,e0',_⟩:=Z5k Tryz.underlying9 f0;obtain⟨s1,e1,e1',_⟩:=Z5k Tryz.underlying9 f1;simp at e0 e1;subst e0;subst e1;refine⟨s0.data.toList,s1.data.toList,ae,?_⟩;simp[e0',e1']
theorem pK {H:Type} {enc:TypeId×Value->H} {w:World} {base:Nat} {spare:Nat->Bool} {held:Bool} {m:Nat} {φ:Ph}:∀ (xs:List (DataW H×List MemPlace)) (cs:List Value),cs.length=xs.length*2->(∀ i,i<xs.length->DataW.trod enc Tryz.prog w base spare held m 293 ((cs.drop (i*2)).take 2)=xs[i]?)->
 All2 (Sr φ) (Br (xs.map (·.1))) cs
 |[],[],_,_=>trivial
 |[],_::_,h,_=>by grind
 |x::xs,[],h,_=>by grind
 |x::xs,[_],h,_=>by grind
 |x::xs,c0::c1::cs,h,hf=>by
  have h0:=hf 0 aq;simp at h0;obtain⟨a,b,e,ex⟩:=BL h0;simp only[Z4s,and_true] at e;obtain⟨rfl,rfl⟩:=e
  have ih:=pK (φ:=φ) xs cs ae (λi hi=>by
   have:=hf (i+1) (by simp;omega);rw[show (i+1)*2=(i*2)+1+1 by omega] at this
   simpa using this)
  simp only[Z13,ex,Br];exact⟨rfl,rfl,ih⟩
theorem xN {enc:TypeId×Value->H} {base:Nat} {spare:Nat->Bool} {held:Bool} {fuel:Nat} {t N:Nat} {cs:List Value} {d:DataW H} (ht:Tryz.prog.underlying t=some (.array N 293)) (hc:Tryz.prog.cellsOf t=N*2) (h:DataW.trod enc Tryz.prog w base spare held fuel t cs=some (d,p)) (φ:Ph):
 ∃ ds,d=.agg ds/\All2 (Sr φ) (Br ds) cs:=by
 obtain⟨xs,m,rfl,hx,hlen,hn,hf⟩:=DataW.trod_array ht h;simp only[Z0j] at hx;refine⟨_,hx.1,pK (enc:=enc) (w:=w) (base:=base) (spare:=spare) (held:=held) (m:=m) xs cs ae (λi hi=>?_)⟩
 grind [sk]
def zW (W:World):Nat->Option (List Value):=λb=>match W.heap[b]? with|some (.cells a _ _)=>some a.toList|_=>none
def Lg (W:World):Ph:=⟨λ_=>none,zW W⟩
theorem DB {W:World} (h:GzOK (zW W)):Ab.Good (Lg W) [] W:=by
 refine⟨λi bl hi=>(by cases hi),λi j bl bl' b b' hi=>(by cases hi),λb l hb=>⟨?_,λhw=>?_⟩,h⟩
 ·have hb:zW W b=some l:=hb
  unfold zW at hb;split at hb
  ·rename_i a ty fr he;cases hb;exact⟨ty,fr,by simpa using he⟩
  ·cases hb
 ·obtain⟨i,bl,c,hi,_⟩:=hw;cases hi
theorem LW:∀ i bl,lk ([]:Hp) i=some bl->bl.ro=true:=λi bl h=>by cases h
theorem ul {W:World} {b o:Nat} (h:W.cell? ⟨b,o,none⟩=some v):∃ vs,zW W b=some vs/\vs[o]? =some v:=by
 unfold World.cell? at h;split at h
 ·rename_i arr ty fr hb
  refine⟨arr.toList,by unfold zW;rw[hb],?_⟩
  simpa using h
 ·cases h
theorem Js {n:Int} (h:(Lit.int .i64 n).wf=true): -9223372036854775808<=n/\n<=9223372036854775807:=by
 simp only[Lit.wf,Z07,decide_eq_true_eq] at h;exact h
theorem CM {n:Int} (h:(Lit.int .u64 n).wf=true):0<=n/\n<=18446744073709551615:=by
 simp only[Lit.wf,Z07,decide_eq_true_eq] at h;exact h
instance:Inhabited Nd:=⟨dN⟩
theorem Bf (b off k:Nat):(⟨b,off,none⟩:Addr).add k=⟨b,off+k,none⟩:=by
 grind [Addr.add]
theorem jl {H:Type} {P:Program} {e:TypeId} {q:Nat->Bool}:∀ {l:List (DataW H)} {x:DataW H},(DataW.weightsAll P e l).all q=true->x∈l->(x.weights P e).all q=true
 |[],_,_,h=>by cases h
 |d::r,x,h,hx=>by
  unfold DataW.weightsAll at h;rw[Z1g,Z07] at h
  rcases Z0h.1 hx with rfl|hx
  ·exact h.1
  ·exact jl h.2 hx
theorem za:Tryz.prog.cellsOf 3=1:=aK
theorem FH:Tryz.prog.cellsOf 47=1:=aK
theorem AY:Tryz.prog.cellsOf 49=4:=aK
theorem KM:Tryz.prog.bytesOf 3=8:=aK
section
variable {H:Type} {enc:TypeId×Value->H} {W:World} {base:Nat} {held:Bool}
theorem rJ {r:Reach} {b0:Nat} {d:DataW H} (hv:Value.okWide Tryz.prog W r b0 22 v) (h:DataW.Trod enc Tryz.prog W base (λ_=>true) held 22 v d p) (hw:(d.weights Tryz.prog 22).all (·<=reachBytes)=true):
 ∃ l:List Int,Vr (Lg W) (.s (kM l)) v/\l.length<=20000000000000:=by
 obtain⟨a0,len0,cap0,rfl⟩:=okWide_slice Tryz.underlying22 hv;obtain⟨fuel,hf⟩:=h
 rcases Go.Deep.open_slice1 Tryz.underlying22 za hf with ⟨hcs,_⟩|⟨a,len,cap,m,n,V,D,Pl,hcs,_,hl,_,hm,hd,hx⟩
 ·simp[Value.cells] at hcs
  obtain⟨rfl,rfl,rfl⟩:=hcs;exact⟨[],.nil _ _ _ _ (λ_=>rfl),aq⟩
 ·simp[Value.cells] at hcs
  obtain⟨rfl,rfl,rfl⟩:=hcs;simp only[if_true] at hm;subst hm
  have hcap:m<=20000000000000:=by
   have e:d=.slice ((List.range len0).map D) ((List.range (m-len0)).map λj=>D (len0+j)):=congrArg Prod.fst hd;rw[e] at hw;unfold DataW.weights at hw
   grind [Tryz.underlying22,KM,reachBytes]
  have each:∀ i,i<m->∃ z:Int,W.cell? (a.add i)=some (.int .i64 z):=by
   intro i hi;obtain⟨h1,h2⟩:=hx i hi;obtain⟨z,e1,_,w1⟩:=Z4e Tryz.underlying3 h2
   grind
  obtain⟨f,hfq⟩:=Go.Deep.choose_lt each;refine⟨(List.range len0).map f,?_,ae⟩;unfold kM;rw[show ((List.range len0).map f).length=len0 by simp];by_cases h0:len0=0
  ·subst h0
   exact .nil _ _ _ _ (λe=>by cases e)
  obtain⟨b,off,spot⟩:=a
  have hspot:spot=none:=by simpa [Addr.add] using World.cell?_spot (hfq 0 aa)
  subst hspot
  have hc:∀ i,i<m->W.cell? ⟨b,off+i,none⟩=some (.int .i64 (f i)):=λi hi=>by
   grind [Bf]
  obtain⟨vs,hz,_⟩:=ul (hc 0 aa);refine .frz _ 1 len0 b off m vs hz hl (λi _=> .int .i64 (f i)) (λ_ _=>rfl) (λi j x hi hj=>?_) (λi j x hi hj=>?_)
  ·grind [ul]
  ·cases j with
   |succ j=>simp at hj
   |zero=>
    simp only[Z11,Z06] at hj;subst hj;rw[show ((List.range len0).map f).getD i 0=f i by grind];exact .int _ _
end
end
section
variable {W:World}
theorem row0:(((begin Tryz.prog (λ_ _=>0) default).world.heap[1]?).bind Obj.row?).map (·.2)=some 301:=aK
theorem gty0:(Tryz.prog.globals[1]?).map (·.type)=some 301:=aK
theorem gcl0:Tryz.prog.cellsOf 301=12*2:=aK
theorem row1:(((begin Tryz.prog (λ_ _=>0) default).world.heap[2]?).bind Obj.row?).map (·.2)=some 302:=aK
theorem gty1:(Tryz.prog.globals[2]?).map (·.type)=some 302:=aK
theorem gcl1:Tryz.prog.cellsOf 302=13*2:=aK
theorem row2:(((begin Tryz.prog (λ_ _=>0) default).world.heap[3]?).bind Obj.row?).map (·.2)=some 303:=aK
theorem gty2:(Tryz.prog.globals[3]?).map (·.type)=some 303:=aK
theorem gcl2:Tryz.prog.cellsOf 303=29*2:=aK
theorem B4 (hS:W.ShapedOpen Tryz.prog) {g t:Nat} (hg:g<6) (hr:(((begin Tryz.prog (λ_ _=>0) default).world.heap[g]?).bind Obj.row?).map (·.2)=some t):∃ cs,W.heap[g]? =some (.cells cs t (0,0)):=by
 cases hq:((begin Tryz.prog (λ_ _=>0) default).world.heap[g]?).bind Obj.row? with
 |none=>rw[hq] at hr;cases hr
 |some x=>
  obtain⟨z,t'⟩:=x;rw[hq] at hr;simp only[Z1j,Z06] at hr;subst hr;obtain⟨cs,h1,_⟩:=hS.1 g z t' (Z3w hg (by decide+kernel)) hq;exact⟨cs,h1⟩
theorem F0 {φ:Ph}:∀ {l:List S} {xs:List Value},All2 (Sr φ) l xs->l.all bL=true->All2 (Pr φ.z) l xs
 |[],[],_,_=>trivial
 |[],_::_,h,_=>h.elim
 |_::_,[],h,_=>h.elim
 |a::l,x::xs,h,hp=>by
  rw[Z1b,Z07] at hp;exact⟨h.1.pr hp.1,F0 h.2 hp.2⟩
theorem tP (hS:W.ShapedOpen Tryz.prog) {name:String} {i ty N:Nat} {d:DataW Unit} {ds:List (DataW Unit)} {l:List (String×DataW Unit)} {ps:List MemPlace} {cs0:List S} (hv:DataW.LaidVars Tryz.prog W ((name,d)::l) ps) (hi:i<6)
 (hr:(((begin Tryz.prog (λ_ _=>0) default).world.heap[i]?).bind Obj.row?).map (·.2)=some ty) (hn:Tryz.prog.globalNamed name=some i) (ht:(Tryz.prog.globals[i]?).map (·.type)=some ty) (hu:Tryz.prog.underlying ty=some (.array N 293)) (hc:Tryz.prog.cellsOf ty=N*2)
 (hd:d=.agg ds) (h0:Br ds=cs0) (hp:cs0.all bL=true):∃ vs,zW W i=some vs/\All2 (Pr (zW W)) cs0 vs:=by
 obtain⟨g,t,cs,fuel,p,q,h1,h2,h3,h4,_⟩:=hv;rw[hn] at h1;cases h1;rw[ht] at h2;cases h2;obtain⟨cs',h5⟩:=B4 hS hi hr
 have:cs=cs':=by
  simp only[World.var?,hn,Option.bind_some,h5,Z06] at h3;exact h3.symm
 subst this;obtain⟨ds',e,hall⟩:=xN hu hc h4 (Lg W);rw[hd] at e;cases e;refine⟨cs.toList,by unfold zW;rw[h5],?_⟩;rw[h0] at hall;exact F0 (φ:=Lg W) hall hp
theorem yE (hS:W.ShapedOpen Tryz.prog) (hL:laidMet Tryz.prog Rows.namespacePathsUniqueRow.laid W):GzOK (zW W):=by
 obtain⟨ps,hv,_⟩:=hL;obtain⟨_,_,_,_,_,q0,_,_,_,_,hv1,_⟩:=hv;have b0:=tP hS (ty:=301) (N:=12) (cs0:=(GS 1).getD []) hv1 ac row0 aK gty0 Tryz.underlying301 gcl0 rfl aK aK;obtain⟨_,_,_,_,_,q1,_,_,_,_,hv2,_⟩:=hv1;have b1:=tP hS (ty:=302) (N:=13) (cs0:=(GS 2).getD []) hv2 ac row1 aK gty1 Tryz.underlying302 gcl1 rfl aK aK;obtain⟨_,_,_,_,_,q2,_,_,_,_,hv3,_⟩:=hv2;have b2:=tP hS (ty:=303) (N:=29) (cs0:=(GS 3).getD []) hv3 ac row2 aK gty2 Tryz.underlying303 gcl2 rfl aK aK;intro g cs hg
 match g,hg with
 |0,hg=>cases hg
 |1,hg=>rw[hg] at b0;exact b0
 |2,hg=>rw[hg] at b1;exact b1
 |3,hg=>rw[hg] at b2;exact b2
 |g+4,hg=>cases hg
end
theorem Cp {H:Type} {d:DataW H} {l:List (DataW H)} (h:d∈l):Rows.uptoBulk d<=Rows.uptoBulkAll l:=by
 induction l with
 |nil=>cases h
 |cons x r ih=>
  grind [Rows.uptoBulkAll]
section
variable {H:Type} {enc:TypeId×Value->H} {W:World} {base:Nat} {held:Bool}
theorem vM {r:Reach} {b0:Nat} {v:Value} {d:DataW H} {p:List MemPlace} (hv:Value.okWide Tryz.prog W r b0 32 v) (h:DataW.Trod enc Tryz.prog W base (λ_=>true) held 32 v d p) (hw:(d.weights Tryz.prog 32).all (·<=reachBytes)=true):
 ∃ l:List Nd,Vr (Lg W) (al l) v/\oh l/\li l/\∀ x∈l,x.str.length<=Rows.uptoBulk d:=by
 obtain⟨a0,len0,cap0,rfl⟩:=okWide_slice Tryz.underlying32 hv;obtain⟨fuel,hf⟩:=h
 rcases Go.Deep.open_slice Tryz.underlying32 hf with ⟨hcs,_⟩|⟨a,len,cap,m,n,D,Pl,hcs,_,hl,_,hm,hd,hx⟩
 ·simp[Value.cells] at hcs
  obtain⟨rfl,rfl,rfl⟩:=hcs;exact⟨[],.nil _ _ _ _ (λ_=>rfl),λx hx=>(by cases hx),λx hx=>(by cases hx),λx hx=>(by cases hx)⟩
 ·simp[Value.cells] at hcs
  obtain⟨rfl,rfl,rfl⟩:=hcs;simp only[if_true] at hm;subst hm;rw[AY] at hx
  have hwt:∀ i,i<len0->((D i).weights Tryz.prog 49).all (·<=reachBytes)=true:=λi hi=>by
   grind [Tryz.underlying32,DataW.weights,jl]
  have hbk:∀ i,i<len0->Rows.uptoBulk (D i)<=Rows.uptoBulk d:=λi hi=>by
   have e:d=.slice ((List.range len0).map D) ((List.range (m-len0)).map λj=>D (len0+j)):=congrArg Prod.fst hd;have h1:=Cp (Z1d.2 ⟨i,Z29.2 hi,rfl⟩:D i∈(List.range len0).map D)
   grind [Rows.uptoBulk]
  have each:∀ i,i<m->∃ q:Nd,((i<len0->q.str.length<=reachBytes/\q.str.length<=Rows.uptoBulk d)/\0<=q.int)/\∀ j,j<4->W.cell? (a.add (i*4+j))=[Value.int .i64 q.op,.int .u64 q.int,.string ⟨q.str.toArray⟩,.int .i64 q.kids][j]? :=by
   intro i hi;obtain⟨cs',h1,h2⟩:=hx i hi;obtain⟨_,hlen,hcell⟩:=World.cells?_some h1;obtain⟨xs,k,hk,hxy,_,hxl,hfld⟩:=DataW.trod_struct Tryz.underlying49 h2
   match xs,hxl,cs',hlen with
   |[y0,y1,y2,y3],_,[v0,v1,v2,v3],_=>
    have g0:=hfld 0 _ rfl;have g1:=hfld 1 _ rfl;have g2:=hfld 2 _ rfl;have g3:=hfld 3 _ rfl;simp[za,FH,zb] at g0 g1 g2 g3;obtain⟨n0,e0,_,w0⟩:=Z4e Tryz.underlying3 g0;obtain⟨n1,e1,_,w1⟩:=Z4e Tryz.underlying47 g1;obtain⟨s2,e2,e2',m2⟩:=Z5k Tryz.underlying9 g2;obtain⟨n3,e3,_,w3⟩:=Z4e Tryz.underlying3 g3;simp only[Z4s,and_true] at e0 e1 e2 e3;subst e0;subst e1;subst e2;subst e3
    have hsl:i<len0->s2.data.toList.length<=reachBytes/\s2.data.toList.length<=Rows.uptoBulk d:=λhi0=>by
     have hwi:=hwt i hi0;have hbi:=hbk i hi0;have hDi:D i=.agg [y0.1,y1.1,y2.1,y3.1]:=congrArg Prod.fst hxy;rw[hDi,e2'] at hwi hbi;simp only[Rows.uptoBulk,Rows.uptoBulkAll] at hbi;unfold DataW.weights at hwi;rw[Tryz.underlying49] at hwi;simp only[DataW.weightsEach,DataW.weights,Z13,Z3d,Z1g,Z1b,Z2u,Z07,decide_eq_true_eq] at hwi;exact⟨hwi.2.2.1.1,aa⟩
    refine⟨⟨n0,n1,s2.data.toList,n3⟩,⟨hsl,(CM w1).1⟩,λj hj=>?_⟩;have hc:=hcell j ae;rw[Go.Deep.add_add] at hc;rw[hc]
    try rw[<-zR s2]
  obtain⟨f,hfq⟩:=Go.Deep.choose_lt each
  have hget:∀ i,i<len0->((List.range len0).map f).getD i dN=f i:=λi hi=>by
   grind
  have hmem:∀ x∈(List.range len0).map f,∃ i,i<len0/\x=f i:=λx hx=>by
   grind
  refine⟨(List.range len0).map f,?_,λx hx=>?_,λx hx=>?_,λx hx=>?_⟩
  ·show Pr (zW W) (.frz _ 4 ((List.range len0).map f).length) _
   rw[show ((List.range len0).map f).length=len0 by simp];by_cases h0:len0=0
   ·subst h0
    exact .nil _ _ _ _ (λe=>by cases e)
   obtain⟨b,off,spot⟩:=a
   have hspot:spot=none:=by simpa [Addr.add] using World.cell?_spot ((hfq 0 aa).2 0 aa)
   subst hspot
   have hc:∀ i j,i<m->j<4->W.cell? ⟨b,off+(i*4+j),none⟩=[Value.int .i64 (f i).op,.int .u64 (f i).int,.string ⟨(f i).str.toArray⟩,.int .i64 (f i).kids][j]? :=λi j hi hj=>by
    have:=(hfq i hi).2 j hj
    rwa [Bf] at this
   obtain⟨vs,hz,_⟩:=ul (hc 0 0 aa aa);refine .frz _ 4 len0 b off m vs hz hl (λi j=>[Value.int .i64 (f i).op,.int .u64 (f i).int,.string ⟨(f i).str.toArray⟩,.int .i64 (f i).kids].getD j (.bool false)) (λ_ _=>rfl) (λi j x hi hj=>?_) (λi j x hi hj=>?_)
   ·rw[hget i hi] at hj
    have hj4:j<4:=by
     rcases Z0a j 4 with h|h
     ·exact h
     ·rw[Z0b (by simpa [ndC] using h)] at hj;cases hj
    have h4:=hc i j aa hj4;rw[Z01 (by simpa using hj4)] at h4;obtain⟨vs',hz',h3⟩:=ul h4;rw[hz] at hz';cases hz';rw[h3,Z00,Z01 (by simpa using hj4)];rfl
   ·rw[hget i hi] at hj
    rcases j with _|_|_|_|j
    ·cases hj;exact .int _ _
    ·cases hj;exact .int _ _
    ·cases hj;exact .str _
    ·cases hj;exact .int _ _
    ·simp[ndC] at hj
  ·obtain⟨i,hi,rfl⟩:=hmem x hx
   exact Nat.lt_of_le_of_lt ((hfq i aa).1.1 hi).1 ac
  all_goals grind
end
section
variable {H:Type} {enc:TypeId×Value->H} {w:World} {base:Nat} {spare:Nat->Bool} {held:Bool}
theorem DI {r:Reach} {b0:Nat} {v:Value} {d:DataW H} {p:List MemPlace} (hv:Value.okWide Tryz.prog w r b0 3 v) (h:DataW.Trod enc Tryz.prog w base spare held 3 v d p):∃ n:Int,v=.int .i64 n/\ -9223372036854775808<=n/\n<=9223372036854775807:=by
 obtain⟨n,rfl,_,_,hw⟩:=open_int Tryz.underlying3 hv h;exact⟨n,rfl,Js hw⟩
end
section
variable {H:Type} {enc:TypeId×Value->H} {W:World} {base:Nat} {held:Bool}
theorem DH {r:Reach} {b0:Nat} {v:Value} {d:DataW H} {p:List MemPlace} (hv:Value.okWide Tryz.prog W r b0 49 v) (h:DataW.Trod enc Tryz.prog W base (λ_=>true) held 49 v d p):
 ∃ q:Nd,(∀ φ:Ph,Vr φ (.agg (ndC q)) v)/\0<=q.int:=by
 obtain⟨cs,rfl,hsz⟩:=okWide_struct Tryz.underlying49 hv;obtain⟨l⟩:=cs
 obtain⟨c0,c1,c2,c3,rfl⟩:∃ a b c d,l=[a,b,c,d]:=by
  have:l.length=4:=hsz.trans AY
  match l,this with
  |[a,b,c,d],_=>exact⟨a,b,c,d,rfl⟩
 obtain⟨fuel,hf⟩:=h;obtain⟨xs,k,_,hxy,_,hxl,hfld⟩:=DataW.trod_struct Tryz.underlying49 hf
 match xs,hxl with
 |[y0,y1,y2,y3],_=>
  have g0:=hfld 0 _ rfl;have g1:=hfld 1 _ rfl;have g2:=hfld 2 _ rfl;have g3:=hfld 3 _ rfl;simp[Value.cells,za,FH,zb] at g0 g1 g2 g3;obtain⟨n0,e0,_,w0⟩:=Z4e Tryz.underlying3 g0;obtain⟨n1,e1,_,w1⟩:=Z4e Tryz.underlying47 g1;obtain⟨s2,e2,_,_⟩:=Z5k Tryz.underlying9 g2;obtain⟨n3,e3,_,w3⟩:=Z4e Tryz.underlying3 g3;simp only[Z4s,and_true] at e0 e1 e2 e3;subst e0;subst e1;subst e2;subst e3;exact⟨⟨n0,n1,s2.data.toList,n3⟩,λφ=>⟨_,rfl,rfl,rfl,zR s2,rfl,trivial⟩,(CM w1).1⟩
end
