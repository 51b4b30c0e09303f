import Derived.Test.YtegjgpldfgjoiaaGreatDoorCnB30
set_option linter.unusedSimpArgs false
set_option linter.unusedVariables false
namespace Go.Proofs.YtegjgpldfgjoiaaGreatDoor
open Go Ab
set_option maxRecDepth 100000
set_option maxHeartbeats 2000000
theorem vS:SC Tryz.prog 44 [sV [68,101,118,105,99,101,32,40,88,41,32,123,78,97,109,101,32,40,95,65,68,82,44,32,49,41,125]] 0 (puts [] (toW [])) (.tup [.s (.sla 116 117 6),.s (.int .i64 0),.s (.int .i64 0)]) 149 (puts [] (toW [(116,⟨[.int .i64 11,.int .u64 0,.str [],.int .i64 2,.int .i64 3,.int .u64 0,.str [88],.int .i64 0,.int .i64 4,.int .u64 0,.str [],.int .i64 1,.int .i64 13,.int .u64 0,.str [],.int .i64 2,.int .i64 3,.int .u64 0,.str [95,65,68,82],.int .i64 0,.int .i64 1,.int .u64 1,.str [],.int .i64 0],49,true,false,false,false,(some (117,4)),none,none⟩)])):=
 SC.ofRunQ hm xI (lf:=1000) (d:=60) Tryz.func44 rfl (by kernel_rfl) (by kernel_rfl) (by kernel_rfl)
def awP:List Nd:=[⟨11,0,[],2⟩,⟨3,0,[88],0⟩,⟨4,0,[],1⟩,⟨13,0,[],2⟩,⟨3,0,[95,65,68,82],0⟩,⟨1,1,[],0⟩]
theorem Cu:FC Tryz.prog 44 [sV [68,101,118,105,99,101,32,40,88,41,32,123,78,97,109,101,32,40,95,65,68,82,44,32,49,41,125]] 0 [] (.tup [.s (.frz (fun k=>ndC (awP.getD k dN)) 4 6),.s (.int .i64 0),.s (.int .i64 0)]) 0 []:=by
 refine⟨by kernel_rfl,SC.froz vS (fun k=>ndC (awP.getD k dN)) 4 (i:=116) (N:=6) rfl rfl rfl (fun _ _=>rfl) (fun k j x hk hx=>⟨?_,?_⟩) (fun φ ψ x h hx=>?_)⟩
 ·exact dE ndC 4 dN (fun _=>rfl) (l:=awP) hk hx
 ·rcases j with _|_|_|_|j
  ·cases hx;rfl
  ·cases hx;rfl
  ·cases hx;rfl
  ·cases hx;rfl
  ·simp[ndC] at hx
 ·obtain⟨xs,e,h1⟩:=hx
  refine⟨xs,e,?_⟩
  match xs,h1 with
  |[a,b,c],⟨h1,h2,h3,_⟩=>exact⟨h (.s (.sla 116 117 6)) a rfl h1,h2,h3,trivial⟩
end Go.Proofs.YtegjgpldfgjoiaaGreatDoor
