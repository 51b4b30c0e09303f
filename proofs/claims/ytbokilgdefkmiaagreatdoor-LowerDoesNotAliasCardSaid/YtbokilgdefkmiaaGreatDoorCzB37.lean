import Derived.Test.YtbokilgdefkmiaaGreatDoorCzB36
set_option linter.unusedSimpArgs false
set_option linter.unusedVariables false
namespace Go.Proofs.YtbokilgdefkmiaaGreatDoor
open Go Ab
set_option maxRecDepth 100000
set_option maxHeartbeats 2000000
theorem parse_run:SC Tryz.prog 20 [sV [77,101,116,104,111,100,32,40,77,44,32,48,44,32,48,44,32,48,41,32,123,82,101,116,117,114,110,32,40,65,100,100,32,40,76,111,99,97,108,48,44,32,49,41,41,125]] 0 (puts [] (toW [])) (.tup [.s (.sla 183 184 10),.s (.int .i64 0),.s (.int .i64 0)]) 215 (puts [] (toW [(183,⟨[.int .i64 14,.int .u64 0,.str [],.int .i64 5,.int .i64 3,.int .u64 0,.str [77],.int .i64 0,.int .i64 1,.int .u64 0,.str [],.int .i64 0,.int .i64 1,.int .u64 0,.str [],.int .i64 0,.int .i64 1,.int .u64 0,.str [],.int .i64 0,.int .i64 4,.int .u64 0,.str [],.int .i64 1,.int .i64 33,.int .u64 0,.str [],.int .i64 1,.int .i64 60,.int .u64 0,.str [],.int .i64 2,.int .i64 6,.int .u64 0,.str [],.int .i64 0,.int .i64 1,.int .u64 1,.str [],.int .i64 0],31,true,false,false,false,(some (184,4)),none,none⟩)])):=
 SC.ofRunQ hm tabOv_ok (lf:=1000) (d:=60) Tryz.func20 rfl (by kernel_rfl) (by kernel_rfl) (by kernel_rfl)
def awP:List Nd:=[⟨14,0,[],5⟩,⟨3,0,[77],0⟩,⟨1,0,[],0⟩,⟨1,0,[],0⟩,⟨1,0,[],0⟩,⟨4,0,[],1⟩,⟨33,0,[],1⟩,⟨60,0,[],2⟩,⟨6,0,[],0⟩,⟨1,1,[],0⟩]
theorem parse_c:FC Tryz.prog 20 [sV [77,101,116,104,111,100,32,40,77,44,32,48,44,32,48,44,32,48,41,32,123,82,101,116,117,114,110,32,40,65,100,100,32,40,76,111,99,97,108,48,44,32,49,41,41,125]] 0 [] (.tup [.s (.frz (fun k=>ndC (awP.getD k dN)) 4 10),.s (.int .i64 0),.s (.int .i64 0)]) 0 []:=by
 refine⟨by kernel_rfl,SC.froz parse_run (fun k=>ndC (awP.getD k dN)) 4 (i:=183) (N:=10) rfl rfl rfl (fun _ _=>rfl) (fun k j x hk hx=>⟨?_,?_⟩) (fun φ ψ x h hx=>?_)⟩
 ·exact flat_get ndC 4 dN (fun _=>rfl) (l:=awP) hk hx
 ·rcases j with _|_|_|_|j
  ·cases hx;rfl
  ·cases hx;rfl
  ·cases hx;rfl
  ·cases hx;rfl
  ·simp[ndC] at hx
 ·obtain⟨xs,e,h1⟩:=hx
  refine⟨xs,e,?_⟩
  match xs,h1 with
  |[a,b,c],⟨h1,h2,h3,_⟩=>exact⟨h (.s (.sla 183 184 10)) a rfl h1,h2,h3,trivial⟩
end Go.Proofs.YtbokilgdefkmiaaGreatDoor
