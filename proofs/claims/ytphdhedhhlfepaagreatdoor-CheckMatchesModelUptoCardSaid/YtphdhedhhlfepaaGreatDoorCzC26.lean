import Derived.Test.YtphdhedhhlfepaaGreatDoorCzC25
set_option linter.unusedSimpArgs false
set_option linter.unusedVariables false
namespace Go.Proofs.YtphdhedhhlfepaaGreatDoor
open Go Ab
set_option maxRecDepth 100000
set_option maxHeartbeats 1000000
def Fo.kid:Fo→Nat→Nat→Fo
 | .nil,_,_=> .nil
 | .cons _ k n,j,i=>if i=j then k else if i<j+1+k.size then k.kid (j+1) i else n.kid (j+1+k.size) i
theorem kid_at {p:List Nd}:∀ {t:Fo} {j:Nat} {cs:List (Bool×Int)} {i:Nat},t.At p j→t.V cs→j≤i→i<j+t.size→∃ sl,(Fo.cons (p.getD i dN) (t.kid j i) .nil).At p i∧(Fo.cons (p.getD i dN) (t.kid j i) .nil).V [sl]
 | .nil,j,cs,i,_,_,h1,h2=>by simp only[Fo.size] at h2;omega
 | .cons x k n,j,cs,i,ha,hv,h1,h2=>by
   simp only[Fo.size] at h2;have hx:=At.get ha
   obtain⟨sl,cs',rfl,hv1,hv2,hvk⟩:∃ sl cs',cs=sl::cs'∧(Fo.cons x k .nil).V [sl]∧n.V cs'∧∃ cs2,k.V cs2:=by
    match cs,hv with
    |(true,c)::cs',⟨h1,h2,h3⟩=>exact⟨_,_,rfl,⟨h1,h2,trivial⟩,h3,_,h2⟩
    |(false,c)::cs',⟨h1,h2,h3⟩=>exact⟨_,_,rfl,⟨h1,h2,trivial⟩,h3,_,h2⟩
   unfold Fo.kid;by_cases e:i=j
   ·subst e
    rw[if_pos rfl,hx];exact⟨sl,⟨ha.1,ha.2.1,ha.2.2.1,trivial⟩,hv1⟩
   ·rw[if_neg e]
    by_cases e2:i<j+1+k.size
    ·rw[if_pos e2]
     obtain⟨cs2,hk⟩:=hvk;exact kid_at ha.2.2.1 hk (by omega) (by omega)
    ·rw[if_neg e2]
     exact kid_at ha.2.2.2 hv2 (by omega) (by omega)
theorem num_at {p:List Nd} {i:Nat} {k:Fo} {sl:Bool×Int} (ha:(Fo.cons (p.getD i dN) k .nil).At p i) (hv:(Fo.cons (p.getD i dN) k .nil).V [sl]):NumAt p i:=by
 have hi:=At.lt ha;have hsz:=At.size_le (Nat.le_of_lt hi) ha;have hc:=Fo.cnt_le k;simp only[Fo.size] at hsz;obtain⟨b,c⟩:=sl
 have hk:∀ op,op≠4→(p.getD i dN).op=op→k.V (slots (kindsB op (p.getD i dN).kids).1):=by
  intro op h4 ho;cases b
  ·have:=hv.2.1;rwa [ho] at this
  ·exact absurd (ho.symm.trans hv.1.1) h4
 refine⟨hi,?_,?_,?_,?_,?_⟩
 ·rintro (e|e|e)
  ·have:k.cnt=5:=Fo.V_cnt (hk _ (by decide) e);omega
  ·have:k.cnt=4:=Fo.V_cnt (hk _ (by decide) e);omega
  ·have:k.cnt=5:=Fo.V_cnt (hk _ (by decide) e);omega
 ·rintro (e|e)
  ·have:k.cnt=4:=Fo.V_cnt (hk _ (by decide) e);omega
  ·have:k.cnt=4:=Fo.V_cnt (hk _ (by decide) e);omega
 ·rintro (e|e|e|e)
  ·have:k.cnt=2:=Fo.V_cnt (hk _ (by decide) e);omega
  ·have:k.cnt=2:=Fo.V_cnt (hk _ (by decide) e);omega
  ·have:k.cnt=2:=Fo.V_cnt (hk _ (by decide) e);omega
  ·have:k.cnt=2:=Fo.V_cnt (hk _ (by decide) e);omega
 ·rintro (e|e)
  ·have:k.cnt=1:=Fo.V_cnt (hk _ (by decide) e);omega
  ·have:k.cnt=2:=Fo.V_cnt (hk _ (by decide) e);omega
 ·intro e
  obtain⟨b',bl,g1,g2,g3⟩:=args_tail [105] k (i+1) rfl (hk _ (by decide) e) ha.2.2.1;have:=At.get g1;have hs:=At.size_le (Nat.le_of_lt (At.lt g1)) g1;have hb:=Fo.cnt_le bl;simp only[Fo.size] at hs;refine⟨bl.cnt,?_,?_⟩
  ·exact (congrArg Nd.kids this).trans g1.2.1
  ·simp only[List.length_cons,List.length_nil] at hs;omega
theorem joinP_len {b r:Pth}:(joinP b r).1.segs.length≤32:=by
 unfold joinP;split
 ·simp[z0]
 ·rename_i h
  split
  ·have hv:validP r=true:=by
    cases e:validP r with
    |true=>rfl
    |false=>exact absurd (.inr e) h
   unfold validP at hv;simp at hv;simp only;omega
  ·split
   ·simp[z0]
   ·simp;omega
def SOK (n:Nat) (s:St):Prop:=(∀ q∈s.S,q.segs.length≤32)∧(∀ x∈s.F,x.2<n)
theorem SOK.sc {n:Nat} {s:St} (h:SOK n s) (i:Nat) {sc:Pth} (hs:sc.segs.length≤32):SOK n (s.sc i sc):=
 ⟨fun q hq=>(List.mem_or_eq_of_mem_set hq).elim (h.1 q) (fun e=>e▸hs),h.2⟩
theorem SOK.rep {n:Nat} {s:St} (h:SOK n s) (i c:Nat):SOK n (s.rep i c):=h
theorem SOK.dec {n:Nat} {s:St} (h:SOK n s) {i:Nat} (hi:i<n) (path:By) (op:Int):SOK n (s.dec i path op):=by
 refine⟨h.1,fun x hx=>?_⟩;simp only[St.dec,decF] at hx;split at hx
 ·exact h.2 x hx
 ·rcases List.mem_append.1 hx with hx|hx
  ·exact h.2 x hx
  ·simp at hx;rw[hx];exact hi
theorem SOK.head {n:Nat} {s:St} (h:SOK n s) {i:Nat} (hi:i<n) (x:Nd) (nm:Pth) {sc:Pth} (hs:sc.segs.length≤32):SOK n (headS x nm i sc s).2∧(headS x nm i sc s).1.segs.length≤32:=by
 have hj:=joinP_len (b:=sc) (r:=nm);unfold headS;split
 ·split
  ·exact⟨h.sc i hs,hj⟩
  ·exact⟨(h.sc i hs).rep i 2,hs⟩
 ·split
  ·exact⟨h.sc i hs,hs⟩
  ·split
   ·refine⟨(h.sc i hs).dec hi _ _,?_⟩
    simp only;split
    ·exact hj
    ·exact hs
   ·exact⟨(h.sc i hs).rep i 2,hs⟩
theorem SOK.decl {p:List Nd}:∀ (m:Bool) (t:Fo) (i:Nat) (sc:Pth) (s:St),t.At p i→sc.segs.length≤32→SOK p.length s→SOK p.length (declS m t i sc s)
 |m,.nil,i,sc,s,_,_,h=>by cases m<;>exact h
 |true,.cons x k n,i,sc,s,ha,hs,h=>by
  simp only[declS];split
  ·exact SOK.decl false k (i+1) sc s ha.2.2.1 hs h
  ·exact SOK.decl true n _ sc s ha.2.2.2 hs h
 |false,.cons x k n,i,sc,s,ha,hs,h=>by
  simp only[declS];have hh:=h.head (At.lt ha) x (nameF k) hs;refine SOK.decl false n _ sc _ ha.2.2.2 hs ?_;split
  ·exact SOK.decl true k _ _ _ ha.2.2.1 hh.2 hh.1
  ·exact hh.1
theorem SOK.anS {p:List Nd} {t:Fo} (ha:t.At p 0):SOK p.length (anS p t):=
 SOK.decl false t 0 _ _ ha (by simp) ⟨fun q hq=>by rw[(List.mem_replicate.1 hq).2];simp[z0],fun x hx=>by cases hx⟩
theorem lastBl_size:∀ t:Fo,(lastBl t).size≤t.size
 | .nil=>Nat.le_refl _
 | .cons _ k .nil=>by simp only[lastBl,Fo.size];omega
 | .cons _ _ (.cons x k n)=>by
   have:=lastBl_size (.cons x k n);simp only[lastBl,Fo.size] at this ⊢;omega
theorem nodeG_len {p:List Nd} (hp:p.length≤2048) {F:List (By×Nat)} {sc:Pth} {i:Nat} {k:Fo} {sl:Bool×Int} {G:List (Nat×Nat)} (ha:(Fo.cons (p.getD i dN) k .nil).At p i) (hv:(Fo.cons (p.getD i dN) k .nil).V [sl]):
 (nodeG p F sc k i G).length≤G.length+3*2048:=by
 have hsz:=At.size_le (Nat.le_of_lt (At.lt ha)) ha;simp only[Fo.size] at hsz;have hl:=lastBl_size k;unfold nodeG;split
 ·split<;>simp
 ·split
  ·unfold fieldG
   split
   ·simp
   ·split
    ·simp
    ·refine Nat.le_trans (unitsG_len _ _ _ _ _ _ _) ?_
     omega
  ·split
   ·split<;>simp
   ·split
    ·unfold metG
     have h1:=argG_len p (numN p (i+2)) ((lastBl k).size+1) (i+5) G;have h2:=stmS_len false (lastBl k) (i+6) false true (argG p (numN p (i+2)) ((lastBl k).size+1) (i+5) G);omega
    ·simp
def rowG (p:List Nd) (F:List (By×Nat)) (T:List Pth) (t:Fo):Nat→Nat→List (Nat×Nat)→List (Nat×Nat)
 |0,_,G=>G
 |c+1,i,G=>rowG p F T t c (i+1) (nodeG p F (T.getD i z0) (t.kid 0 i) i (if oorB p i then G++[(i,4)] else G))
end Go.Proofs.YtphdhedhhlfepaaGreatDoor
