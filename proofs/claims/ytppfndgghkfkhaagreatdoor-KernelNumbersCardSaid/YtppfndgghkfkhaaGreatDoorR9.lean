/- Known calls of the program, part 9: each is run by the kernel. -/
import Derived.Test.YtppfndgghkfkhaaGreatDoorR8
import Derived.Test.YtppfndgghkfkhaaGreatDoorC
set_option linter.all false
set_option maxRecDepth 100000
namespace Ae
open Go Go.Proofs
noncomputable def m82 : Memo := ⟨[.v (.sl 14 0 49152 (.u 1))],[z,z,z,z,z,z,z,z,z,z,z,z,z,z,B2],[.arg],.v (.t [.a [u 1089536,.sl 15 0 1 (.u 2),.sl 16 0 2 (.u 2),.sl 17 0 2 (.u 6),.sl 18 0 2 (.u 1),.sl 19 0 5 (.u 4),.sl 20 0 1 (.u 5),.sl 21 0 1 (.u 5),.sl0,.sl 22 0 2 (.u 2),i 0,i 0,i 18446744073709551615,.sl 23 0 11 (.u 512)],.a [i 0,i 0],i 0]),[],[.ro 121 [(0,[u 1048576,u 8388608])] [] 2 true,B51,B24,B78,B16,B61,B65,.ro 127 [(0,[i 640,.sl 24 0 4 (.u 1),i 100,.sl 25 0 4 (.u 1)])] [] 4 true,B9,.ro 129 [(0,[.sl 26 0 2 (.u 2),.sl 27 0 2 (.u 2),.sl 28 0 1 (.u 2),.sl 29 0 1 (.u 2)])] [] 4 true,.ro 129 [(0,[.sl 30 0 2 (.u 2),.sl 31 0 1 (.u 2),.sl 32 0 1 (.u 2),.sl 33 0 1 (.u 2)])] [] 4 true,B54,B55,B75,B75,B56,B76,B76,B76]⟩
noncomputable def t82 : List (Nat × List Memo) := [(365, [m71, m72, m73, m74, m75, m76, m77, m78, m79, m80, m81])]
theorem t82_ok : ∀ e ∈ t82, ∀ m ∈ e.2, MemoOk Tryz.prog 14 e.1 (unM m) := (hl_cons (hm_cons m71_ok (hm_cons m72_ok (hm_cons m73_ok (hm_cons m74_ok (hm_cons m75_ok (hm_cons m76_ok (hm_cons m77_ok (hm_cons m78_ok (hm_cons m79_ok (hm_cons m80_ok (hm_cons m81_ok hm_nil))))))))))) hl_nil)
theorem m82_ok : MemoOk Tryz.prog 14 80 (unM m82) := memo_known prog_ok (base := prims0) (dprim := dprims) (mask := maskOf) (d := 400) (l := t82) prims0_ok dprims_ok t82_ok 8 80 (by kernel_rfl)
noncomputable def m83 : Memo := ⟨[.v (.p 14 0),.v (i 0),.v (i 0)],[z,z,z,z,z,z,z,z,z,z,z,z,z,z,B13,.ro 121 [(0,[u 1048576,u 8388608])] [] 2 true,B51,B24,B78,B16,B61,B65,B58,B9,.ro 180 [(0,[u 1048576,u 9437183])] [] 2 true,B52,.ro 180 [(0,[u 1048576,u 1089535])] [] 2 true,B45,B46,B54,B55,B75,B75,B56,B76,B76,B76],[.arg,.cell 14 1,.cell 14 2,.cell 14 3,.cell 14 4,.cell 14 5,.cell 14 6,.cell 14 7,.cell 14 9,.cell 14 13,.cell 14 15,.cell 14 16,.cell 14 17,.cell 22 1,.cell 22 3,.cell 27 0,.cell 27 1,.cell 27 2,.cell 27 3,.cell 28 0,.cell 28 1,.cell 28 2,.cell 28 3],.v (i 5),[],[]⟩
theorem m83_ok : MemoOk Tryz.prog 14 195 (unM m83) := memo_known prog_ok (base := prims0) (dprim := dprims) (mask := maskOf) (d := 400) (l := []) prims0_ok dprims_ok hl_nil 0 195 (by kernel_rfl)
noncomputable def m84 : Memo := ⟨[.v (.p 14 0)],[z,z,z,z,z,z,z,z,z,z,z,z,z,z,B13,.ro 121 [(0,[u 1048576,u 8388608])] [] 2 true,B51,B24,B78,B16,B61,B65,B58,B9,.ro 180 [(0,[u 1048576,u 9437183])] [] 2 true,B52,.ro 180 [(0,[u 1048576,u 1089535])] [] 2 true,B45,B46,B54,B55,B75,B75,B56,B76,B76,B76],[.arg,.cell 14 1,.cell 14 2,.cell 14 3,.cell 14 4,.cell 14 5,.cell 14 6,.cell 14 7,.cell 14 9,.cell 14 13,.cell 14 15,.cell 14 16,.cell 14 17,.cell 22 1,.cell 22 3,.cell 27 0,.cell 27 1,.cell 27 2,.cell 27 3,.cell 28 0,.cell 28 1,.cell 28 2,.cell 28 3],.v (.t []),[],[]⟩
noncomputable def t84 : List (Nat × List Memo) := [(195, [m83])]
theorem t84_ok : ∀ e ∈ t84, ∀ m ∈ e.2, MemoOk Tryz.prog 14 e.1 (unM m) := (hl_cons (hm_cons m83_ok hm_nil) hl_nil)
theorem m84_ok : MemoOk Tryz.prog 14 89 (unM m84) := memo_known prog_ok (base := prims0) (dprim := dprims) (mask := maskOf) (d := 400) (l := t84) prims0_ok dprims_ok t84_ok 8 89 (by kernel_rfl)
end Ae
