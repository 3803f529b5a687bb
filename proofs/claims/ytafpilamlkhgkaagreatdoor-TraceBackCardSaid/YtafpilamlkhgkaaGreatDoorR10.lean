/- Known calls of the program, part 10: each is run by the kernel. -/
import Derived.Test.YtafpilamlkhgkaaGreatDoorR8
import Derived.Test.YtafpilamlkhgkaaGreatDoorR9
import Derived.Test.YtafpilamlkhgkaaGreatDoorC
set_option linter.all false
set_option maxRecDepth 100000
namespace Ae
open Go Go.Proofs
noncomputable def m72 : Memo := ⟨[.v (.a [.sl 14 0 1 (.u 2),.sl 15 0 2 (.u 2)]),.v (.sl 16 0 49152 (.u 1))],[z,z,z,z,z,z,z,z,z,z,z,z,z,z,.ro 134 [(0,[u 1048576,u 8388608])] [] 2 true,B33,B1],[.arg,.arg,.arg],.v (.t [.a [u 1089536,.sl 17 0 1 (.u 2),.sl 18 0 2 (.u 2),.sl 19 0 2 (.u 6),.sl 20 0 2 (.u 1),.sl 21 0 5 (.u 4),.sl 22 0 1 (.u 5),.sl 23 0 1 (.u 5),.sl0,.sl 24 0 2 (.u 2),i 0,i 0,i 18446744073709551615,.sl 25 0 11 (.u 512)],.i0]),[],[.ro 134 [(0,[u 1048576,u 8388608])] [] 2 true,B33,B15,B53,B8,B40,B44,.ro 442 [(0,[i 640,.sl 26 0 4 (.u 1),i 100,.sl 27 0 4 (.u 1)])] [] 4 true,B4,.ro 443 [(0,[.sl 28 0 2 (.u 2),.sl 29 0 2 (.u 2),.sl 30 0 1 (.u 2),.sl 31 0 1 (.u 2)])] [] 4 true,.ro 443 [(0,[.sl 32 0 2 (.u 2),.sl 33 0 1 (.u 2),.sl 34 0 1 (.u 2),.sl 35 0 1 (.u 2)])] [] 4 true,B35,B36,B51,B51,B37,B52,B52,B52]⟩
noncomputable def t72 : List (Nat × List Memo) := [(71, [m59]), (118, [m71])]
theorem t72_ok : ∀ e ∈ t72, ∀ m ∈ e.2, MemoOk Tryz.prog 14 e.1 (unM m) := (hl_cons (hm_cons m59_ok hm_nil) (hl_cons (hm_cons m71_ok hm_nil) hl_nil))
theorem m72_ok : MemoOk Tryz.prog 14 72 (unM m72) := memo_known prog_ok (base := prims0) (dprim := dprims) (mask := maskOf) (d := 400) (l := t72) prims0_ok dprims_ok t72_ok 8 72 (by kernel_rfl)
noncomputable def m73 : Memo := ⟨[.v (.p 14 0),.v (u 1089536),.v (.sl 15 0 49152 (.u 1))],[z,z,z,z,z,z,z,z,z,z,z,z,z,z,B24,B1,.ro 134 [(0,[u 1048576,u 8388608])] [] 2 true,B33,B21,.bx (.map [])],[.arg,.arg,.cell 14 3,.cell 14 4,.cell 14 5,.cell 14 6],.v (.a [i 0,u 0]),[none,none,none,none,none,none,none,none,none,none,none,none,none,none,none,none,none,none,none,some (.bx (.map [(u 266,.p 20 0),(u 267,.p 21 0),(u 268,.p 22 0),(u 269,.p 23 0),(u 270,.p 24 0),(u 271,.p 25 0),(u 272,.p 26 0),(u 273,.p 27 0),(u 274,.p 28 0),(u 275,.p 29 0),(u 276,.p 30 0),(u 277,.p 31 0)]))],[B2,.oc 723 [(0,[1,192,16]),(8,[1,224,16])] 0 4096 false,.oc 723 [(0,[1,208,16])] 0 4096 false,B17,.oc 723 [(0,[1,240,16])] 0 4096 false,.oc 723 [(0,[3]),(3,[240])] 0 4096 false,.oc 723 [(0,[1,16,17])] 0 4096 false,.oc 723 [(0,[1,32,17])] 0 4096 false,B39,.oc 723 [(0,[1,64,17])] 0 4096 false,.oc 723 [(0,[1,80,17])] 0 4096 false,B32]⟩
theorem m73_ok : MemoOk Tryz.prog 14 250 (unM m73) := memo_known prog_ok (base := prims0) (dprim := dprims) (mask := maskOf) (d := 400) (l := []) prims0_ok dprims_ok hl_nil 0 250 (by kernel_rfl)
end Ae
