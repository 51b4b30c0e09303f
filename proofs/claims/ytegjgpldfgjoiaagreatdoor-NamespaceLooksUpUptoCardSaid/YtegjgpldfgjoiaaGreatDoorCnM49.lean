import Derived.Test.YtegjgpldfgjoiaaGreatDoorCnM48
import Derived.Test.YtegjgpldfgjoiaaGreatDoorCnM28
set_option linter.all false
namespace Go.Proofs.YtegjgpldfgjoiaaGreatDoor
open Go Ab
theorem PgOK.wfI2 {p:List Nd} (h:PgOK p):pR p:=λx hx=>(h.wf x hx).2
theorem PgOK.wfS2 {p:List Nd} (h:PgOK p):pn p:=λx hx=>by have:=(h.wf x hx).1;omega
theorem E_ (l1:List Int) (hl1:l1.length<=20000000000000) (l2:List Int) (hl2:l2.length<=20000000000000) (scopes:List By) (hs:∀ i,(scopes.getD i []).length<=4398046511104) (hsl:scopes.length<=200000000000000) (names:List By) (hn:∀ i,(names.getD i []).length<=4398046511104) (hnl:names.length<=200000000000000) (picks:List Int) (hp:picks.length<=20000000000000):
 FC Tryz.prog 3 [.s (mC l1),.s (mC l2),.s (aE scopes),.s (aE names),.s (mC picks)] 0 [] (bV true) 0 []:=by
 obtain⟨p1,k1,g1⟩:=qa l1 hl1;obtain⟨p2,k2,g2⟩:=qa l2 hl2;obtain⟨E1,T1,K1,z1,e1,h1,b1⟩:=DA p1 k1.wfS2 k1.wfI2 Iq ac ac;obtain⟨E,T,K,z,e,h2,b2⟩:=DA p2 k2.wfS2 k2.wfI2 b1 ac ac;exact E9 l1 l2 picks hp scopes names hs hn hsl hnl p1 p2 g1 g2 F3 E1 E T1 T K1 K z1 e1 z e h1 h2 b2.len (by obtain⟨x,t,e,_⟩:=b2.root;rw[e];simp) b2.shp
end Go.Proofs.YtegjgpldfgjoiaaGreatDoor
