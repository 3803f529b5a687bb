/- Known calls of the program, part 6: each is run by the kernel. -/
import Derived.Test.YtafpilamlkhgkaaGreatDoorR5
import Derived.Test.YtafpilamlkhgkaaGreatDoorC
set_option linter.all false
set_option maxRecDepth 100000
namespace Ae
open Go Go.Proofs
noncomputable def m56 : Memo := ⟨[.v (.a [u 1089536,.sl 14 0 1 (.u 2),.sl 15 0 2 (.u 2),.sl 16 0 2 (.u 6),.sl 17 0 2 (.u 1),.sl 18 0 5 (.u 4),.sl 19 0 1 (.u 5),.sl 20 0 1 (.u 5),.sl0,.sl 21 0 2 (.u 2),i 0,i 0,i 18446744073709551615,.sl 22 0 11 (.u 512)])],[z,z,z,z,z,z,z,z,z,z,z,z,z,z,.ro 134 [(0,[u 1048576,u 8388608])] [] 2 true,B33,B15,B53,B8,B40,B44,B38,B4,B30,B31,B35,B36,B51,B51,B37,B50,B50,B50],[.arg,.arg,.arg,.arg,.arg,.arg,.arg,.arg,.arg,.cell 21 1,.cell 21 3,.cell 23 0,.cell 23 1,.cell 23 2,.cell 23 3,.cell 24 0,.cell 24 1,.cell 24 2,.cell 24 3],.v (.t [.sl 33 0 49152 (.u 1),i 0]),[],[B1]⟩
noncomputable def t56 : List (Nat × List Memo) := [(165, [m54])]
theorem t56_ok : ∀ e ∈ t56, ∀ m ∈ e.2, MemoOk Tryz.prog 14 e.1 (unM m) := (hl_cons (hm_cons m54_ok hm_nil) hl_nil)
theorem m56_ok : MemoOk Tryz.prog 14 89 (unM m56) := memo_known prog_ok (base := (putB (K55 putE))) (dprim := dprims) (mask := maskOf) (d := 400) (l := t56) (putB_ok (K55_ok putE_ok)) dprims_ok t56_ok 8 89 (by kernel_rfl)
end Ae
